/- Part 14. -/
import Derived.Test.YtmamjhmoegjapaaGreatP13
namespace Go.Proofs.YtmamjhmoegjapaaGreat
namespace Av
open Tryz
set_option linter.all false
set_option maxRecDepth 4000
set_option maxHeartbeats 4000000
def qF (r:Rq) (k:Nat):AV:= .agg [iA r.id,iA r.vh,iA r.cls,iA r.til,.ref k 0 (r.legs.map xW).length]
def fM (r:Rq):xP:= .arr 5 (r.legs.map xW) false
theorem MR (l:List Lg) (h1:1<=l.length) (hl:l.length<=1000):zO 152 [zD xW l] [] (.ref 1101 0 (l.map xW).length) [(1101,.arr 5 (l.map xW) false)]:=by
 have hll:=zA xW l;refine eM call152 λF hF=>?_
 refine xD 0 rfl (λcap hx=>?_) ?_
 ·have:l=[]:=by simpa using hx
  subst this;simp at h1
 ·(repeat' (first|refine WV ?_|refine SG (I2 (λhc=>?_) (λhc=>?_))|refine SG (λhc=>?_)|(refine zE ?_;first|(refine yZ ?_;refine uF (nw:=[1101]) (yK tok 1101 (xs:=[]) rfl rfl rfl rfl rfl rfl rfl rfl rfl) rfl rfl rfl ?_))|refine SB ?_|(first|refine xM ?_|refine xB ?_|refine wU rfl ?_|refine zV rfl ?_|refine zQ rfl ?_|refine xF rfl (λhc=>?_) (λhc=>?_)|refine yV ?_|refine yQ ?_|refine xC ?_|refine yN ?_)|fail))
  exact zJ [1101] rfl rfl rfl rfl
theorem gC (r:Rq) (h1:1<=r.legs.length) (hl:r.legs.length<=1000):zO 211 [yL r] [] (qF r 1101) [(1101,fM r)]:=by
 have c:=MR r.legs h1 hl;have hll:=zA xW r.legs;refine eM call211 λF hF=>?_
 refine zW c ?_;exact zJ [1101] rfl rfl rfl rfl
theorem MS (l:List Lg) (h1:1<=l.length) (hl:l.length<=1000):zO 152 [zD xW l] [] (.ref 1102 0 (l.map xW).length) [(1102,.arr 5 (l.map xW) false)]:=by
 have hll:=zA xW l;refine eM call152 λF hF=>?_
 refine xD 0 rfl (λcap hx=>?_) ?_
 ·have:l=[]:=by simpa using hx
  subst this;simp at h1
 ·(repeat' (first|refine WV ?_|refine SG (I2 (λhc=>?_) (λhc=>?_))|refine SG (λhc=>?_)|(refine zE ?_;first|(refine yZ ?_;refine uF (nw:=[1102]) (yK tok 1102 (xs:=[]) rfl rfl rfl rfl rfl rfl rfl rfl rfl) rfl rfl rfl ?_))|refine SB ?_|(first|refine xM ?_|refine xB ?_|refine wU rfl ?_|refine zV rfl ?_|refine zQ rfl ?_|refine xF rfl (λhc=>?_) (λhc=>?_)|refine yV ?_|refine yQ ?_|refine xC ?_|refine yN ?_)|fail))
  exact zJ [1102] rfl rfl rfl rfl
theorem bS (r:Rq) (h1:1<=r.legs.length) (hl:r.legs.length<=1000):zO 211 [yL r] [] (qF r 1102) [(1102,fM r)]:=by
 have c:=MS r.legs h1 hl;have hll:=zA xW r.legs;refine eM call211 λF hF=>?_
 refine zW c ?_;exact zJ [1102] rfl rfl rfl rfl
theorem MT (l:List Lg) (h1:1<=l.length) (hl:l.length<=1000):zO 152 [zD xW l] [] (.ref 1103 0 (l.map xW).length) [(1103,.arr 5 (l.map xW) false)]:=by
 have hll:=zA xW l;refine eM call152 λF hF=>?_
 refine xD 0 rfl (λcap hx=>?_) ?_
 ·have:l=[]:=by simpa using hx
  subst this;simp at h1
 ·(repeat' (first|refine WV ?_|refine SG (I2 (λhc=>?_) (λhc=>?_))|refine SG (λhc=>?_)|(refine zE ?_;first|(refine yZ ?_;refine uF (nw:=[1103]) (yK tok 1103 (xs:=[]) rfl rfl rfl rfl rfl rfl rfl rfl rfl) rfl rfl rfl ?_))|refine SB ?_|(first|refine xM ?_|refine xB ?_|refine wU rfl ?_|refine zV rfl ?_|refine zQ rfl ?_|refine xF rfl (λhc=>?_) (λhc=>?_)|refine yV ?_|refine yQ ?_|refine xC ?_|refine yN ?_)|fail))
  exact zJ [1103] rfl rfl rfl rfl
theorem UK (r:Rq) (h1:1<=r.legs.length) (hl:r.legs.length<=1000):zO 211 [yL r] [] (qF r 1103) [(1103,fM r)]:=by
 have c:=MT r.legs h1 hl;have hll:=zA xW r.legs;refine eM call211 λF hF=>?_
 refine zW c ?_;exact zJ [1103] rfl rfl rfl rfl
theorem MU (l:List Lg) (h1:1<=l.length) (hl:l.length<=1000):zO 152 [zD xW l] [] (.ref 1104 0 (l.map xW).length) [(1104,.arr 5 (l.map xW) false)]:=by
 have hll:=zA xW l;refine eM call152 λF hF=>?_
 refine xD 0 rfl (λcap hx=>?_) ?_
 ·have:l=[]:=by simpa using hx
  subst this;simp at h1
 ·(repeat' (first|refine WV ?_|refine SG (I2 (λhc=>?_) (λhc=>?_))|refine SG (λhc=>?_)|(refine zE ?_;first|(refine yZ ?_;refine uF (nw:=[1104]) (yK tok 1104 (xs:=[]) rfl rfl rfl rfl rfl rfl rfl rfl rfl) rfl rfl rfl ?_))|refine SB ?_|(first|refine xM ?_|refine xB ?_|refine wU rfl ?_|refine zV rfl ?_|refine zQ rfl ?_|refine xF rfl (λhc=>?_) (λhc=>?_)|refine yV ?_|refine yQ ?_|refine xC ?_|refine yN ?_)|fail))
  exact zJ [1104] rfl rfl rfl rfl
theorem IU (r:Rq) (h1:1<=r.legs.length) (hl:r.legs.length<=1000):zO 211 [yL r] [] (qF r 1104) [(1104,fM r)]:=by
 have c:=MU r.legs h1 hl;have hll:=zA xW r.legs;refine eM call211 λF hF=>?_
 refine zW c ?_;exact zJ [1104] rfl rfl rfl rfl
theorem zOo (a:Rq) (ha:1<=a.legs.length) (ga:a.legs.length<=1000):zO 190 [zD yL [a],.fn 218 []] [] (.ref 1001 0 1) [(1001,.arr 5 [qF a 1101] ⟨false,true⟩),(1101,fM a)]:=by
 have ca:=vH a;have da:=gC a ha ga;refine eM call190 λF hF=>?_
 refine WW ?_;refine xK 5 1001 5 rfl rfl rfl ?_;refine wM 2 [1001,1101] [5,10,1,8,9] rfl ?_;refine yE (st0:=⟨[(5,.ref 1001 0 0),(10,iA 0),(1,.fn 218 []),(8,.sl false [yL a]),(9,iA 1)],[(1001,.arr 5 [] ⟨true,false⟩)]⟩) rfl ?_
 (have zc1:=ca;have zc2:=da;(repeat' (first|refine aT ?_|refine xR (λhc=>?_) (λhc=>?_)|refine wE (λhc=>?_)|(refine zE ?_;first|(refine yZ ?_;refine dK (xs:=[_]) 1002 tok rfl rfl rfl rfl rfl rfl rfl rfl rfl rfl rfl rfl ?_)|(refine yW ?_;first|refine qE tok rfl rfl rfl rfl rfl rfl rfl (by intro y hy;cases hy;rfl) rfl rfl rfl zU rfl ?_|refine kI tok rfl rfl rfl rfl rfl rfl rfl rfl rfl rfl rfl (by intro y hy;cases hy;rfl) zU rfl ?_))|refine SB ?_|fail))<;>clear zc1 zc2)
 refine yE (st0:=⟨[(5,.ref 1001 0 1),(10,iA 1),(1,.fn 218 []),(8,.sl false [yL a]),(9,iA 1)],[(1001,.arr 5 [qF a 1101] ⟨false,true⟩),(1101,fM a)]⟩) rfl ?_;refine WW ?_;exact zJ [1001,1101] rfl rfl rfl rfl
theorem EY (a:Rq) (ha:1<=a.legs.length) (ga:a.legs.length<=1000):zO 193 [zD yL [a]] [] (.ref 1001 0 1) [(1001,.arr 5 [qF a 1101] ⟨false,true⟩),(1101,fM a)]:=by
 have c:=zOo a ha ga;refine eM call193 λF hF=>?_
 refine zW c ?_;exact zJ [1001,1101] rfl rfl rfl rfl
theorem zOp (a b:Rq) (ha:1<=a.legs.length) (ga:a.legs.length<=1000) (hb:1<=b.legs.length) (gb:b.legs.length<=1000):zO 190 [zD yL [a,b],.fn 218 []] [] (.ref 1001 0 2) [(1001,.arr 5 [qF a 1101,qF b 1102] ⟨true,true⟩),(1101,fM a),(1102,fM b)]:=by
 have ca:=vH a;have da:=gC a ha ga;have cb:=vH b;have db:=bS b hb gb;refine eM call190 λF hF=>?_
 refine WW ?_;refine xK 5 1001 5 rfl rfl rfl ?_;refine wM 3 [1001,1101,1102] [5,10,1,8,9] rfl ?_;refine yE (st0:=⟨[(5,.ref 1001 0 0),(10,iA 0),(1,.fn 218 []),(8,.sl false [yL a,yL b]),(9,iA 2)],[(1001,.arr 5 [] ⟨true,false⟩)]⟩) rfl ?_
 (have zc1:=ca;have zc2:=da;(repeat' (first|refine aT ?_|refine xR (λhc=>?_) (λhc=>?_)|refine wE (λhc=>?_)|(refine zE ?_;first|(refine yZ ?_;refine dK (xs:=[_]) 1002 tok rfl rfl rfl rfl rfl rfl rfl rfl rfl rfl rfl rfl ?_)|(refine yW ?_;first|refine qE tok rfl rfl rfl rfl rfl rfl rfl (by intro y hy;cases hy;rfl) rfl rfl rfl zU rfl ?_|refine kI tok rfl rfl rfl rfl rfl rfl rfl rfl rfl rfl rfl (by intro y hy;cases hy;rfl) zU rfl ?_))|refine SB ?_|fail))<;>clear zc1 zc2)
 refine yE (st0:=⟨[(5,.ref 1001 0 1),(10,iA 1),(1,.fn 218 []),(8,.sl false [yL a,yL b]),(9,iA 2)],[(1001,.arr 5 [qF a 1101] ⟨false,true⟩),(1101,fM a)]⟩) rfl ?_
 (have zc1:=cb;have zc2:=db;(repeat' (first|refine aT ?_|refine xR (λhc=>?_) (λhc=>?_)|refine wE (λhc=>?_)|(refine zE ?_;first|(refine yZ ?_;refine dK (xs:=[_]) 1002 tok rfl rfl rfl rfl rfl rfl rfl rfl rfl rfl rfl rfl ?_)|(refine yW ?_;first|refine qE tok rfl rfl rfl rfl rfl rfl rfl (by intro y hy;cases hy;rfl) rfl rfl rfl zU rfl ?_|refine kI tok rfl rfl rfl rfl rfl rfl rfl rfl rfl rfl rfl (by intro y hy;cases hy;rfl) zU rfl ?_))|refine SB ?_|fail))<;>clear zc1 zc2)
 refine yE (st0:=⟨[(5,.ref 1001 0 2),(10,iA 2),(1,.fn 218 []),(8,.sl false [yL a,yL b]),(9,iA 2)],[(1001,.arr 5 [qF a 1101,qF b 1102] ⟨true,true⟩),(1101,fM a),(1102,fM b)]⟩) rfl ?_;refine WW ?_;exact zJ [1001,1101,1102] rfl rfl rfl rfl
theorem EZ (a b:Rq) (ha:1<=a.legs.length) (ga:a.legs.length<=1000) (hb:1<=b.legs.length) (gb:b.legs.length<=1000):zO 193 [zD yL [a,b]] [] (.ref 1001 0 2) [(1001,.arr 5 [qF a 1101,qF b 1102] ⟨true,true⟩),(1101,fM a),(1102,fM b)]:=by
 have c:=zOp a b ha ga hb gb;refine eM call193 λF hF=>?_
 refine zW c ?_;exact zJ [1001,1101,1102] rfl rfl rfl rfl
theorem zOq (a b c:Rq) (ha:1<=a.legs.length) (ga:a.legs.length<=1000) (hb:1<=b.legs.length) (gb:b.legs.length<=1000) (hc:1<=c.legs.length) (gc:c.legs.length<=1000):zO 190 [zD yL [a,b,c],.fn 218 []] [] (.ref 1001 0 3) [(1001,.arr 5 [qF a 1101,qF b 1102,qF c 1103] ⟨true,true⟩),(1101,fM a),(1102,fM b),(1103,fM c)]:=by
 have ca:=vH a;have da:=gC a ha ga;have cb:=vH b;have db:=bS b hb gb;have cc:=vH c;have dc:=UK c hc gc;refine eM call190 λF hF=>?_
 refine WW ?_;refine xK 5 1001 5 rfl rfl rfl ?_;refine wM 4 [1001,1101,1102,1103] [5,10,1,8,9] rfl ?_;refine yE (st0:=⟨[(5,.ref 1001 0 0),(10,iA 0),(1,.fn 218 []),(8,.sl false [yL a,yL b,yL c]),(9,iA 3)],[(1001,.arr 5 [] ⟨true,false⟩)]⟩) rfl ?_
 (have zc1:=ca;have zc2:=da;(repeat' (first|refine aT ?_|refine xR (λhc=>?_) (λhc=>?_)|refine wE (λhc=>?_)|(refine zE ?_;first|(refine yZ ?_;refine dK (xs:=[_]) 1002 tok rfl rfl rfl rfl rfl rfl rfl rfl rfl rfl rfl rfl ?_)|(refine yW ?_;first|refine qE tok rfl rfl rfl rfl rfl rfl rfl (by intro y hy;cases hy;rfl) rfl rfl rfl zU rfl ?_|refine kI tok rfl rfl rfl rfl rfl rfl rfl rfl rfl rfl rfl (by intro y hy;cases hy;rfl) zU rfl ?_))|refine SB ?_|fail))<;>clear zc1 zc2)
 refine yE (st0:=⟨[(5,.ref 1001 0 1),(10,iA 1),(1,.fn 218 []),(8,.sl false [yL a,yL b,yL c]),(9,iA 3)],[(1001,.arr 5 [qF a 1101] ⟨false,true⟩),(1101,fM a)]⟩) rfl ?_
 (have zc1:=cb;have zc2:=db;(repeat' (first|refine aT ?_|refine xR (λhc=>?_) (λhc=>?_)|refine wE (λhc=>?_)|(refine zE ?_;first|(refine yZ ?_;refine dK (xs:=[_]) 1002 tok rfl rfl rfl rfl rfl rfl rfl rfl rfl rfl rfl rfl ?_)|(refine yW ?_;first|refine qE tok rfl rfl rfl rfl rfl rfl rfl (by intro y hy;cases hy;rfl) rfl rfl rfl zU rfl ?_|refine kI tok rfl rfl rfl rfl rfl rfl rfl rfl rfl rfl rfl (by intro y hy;cases hy;rfl) zU rfl ?_))|refine SB ?_|fail))<;>clear zc1 zc2)
 refine yE (st0:=⟨[(5,.ref 1001 0 2),(10,iA 2),(1,.fn 218 []),(8,.sl false [yL a,yL b,yL c]),(9,iA 3)],[(1001,.arr 5 [qF a 1101,qF b 1102] ⟨true,true⟩),(1101,fM a),(1102,fM b)]⟩) rfl ?_
 (have zc1:=cc;have zc2:=dc;(repeat' (first|refine aT ?_|refine xR (λhc=>?_) (λhc=>?_)|refine wE (λhc=>?_)|(refine zE ?_;first|(refine yZ ?_;refine dK (xs:=[_]) 1002 tok rfl rfl rfl rfl rfl rfl rfl rfl rfl rfl rfl rfl ?_)|(refine yW ?_;first|refine qE tok rfl rfl rfl rfl rfl rfl rfl (by intro y hy;cases hy;rfl) rfl rfl rfl zU rfl ?_|refine kI tok rfl rfl rfl rfl rfl rfl rfl rfl rfl rfl rfl (by intro y hy;cases hy;rfl) zU rfl ?_))|refine SB ?_|fail))<;>clear zc1 zc2)
 refine yE (st0:=⟨[(5,.ref 1001 0 3),(10,iA 3),(1,.fn 218 []),(8,.sl false [yL a,yL b,yL c]),(9,iA 3)],[(1001,.arr 5 [qF a 1101,qF b 1102,qF c 1103] ⟨true,true⟩),(1101,fM a),(1102,fM b),(1103,fM c)]⟩) rfl ?_;refine WW ?_;exact zJ [1001,1101,1102,1103] rfl rfl rfl rfl
theorem DA (a b c:Rq) (ha:1<=a.legs.length) (ga:a.legs.length<=1000) (hb:1<=b.legs.length) (gb:b.legs.length<=1000) (hc:1<=c.legs.length) (gc:c.legs.length<=1000):zO 193 [zD yL [a,b,c]] [] (.ref 1001 0 3) [(1001,.arr 5 [qF a 1101,qF b 1102,qF c 1103] ⟨true,true⟩),(1101,fM a),(1102,fM b),(1103,fM c)]:=by
 have c:=zOq a b c ha ga hb gb hc gc;refine eM call193 λF hF=>?_
 refine zW c ?_;exact zJ [1001,1101,1102,1103] rfl rfl rfl rfl
theorem zOr (a b c d:Rq) (ha:1<=a.legs.length) (ga:a.legs.length<=1000) (hb:1<=b.legs.length) (gb:b.legs.length<=1000) (hc:1<=c.legs.length) (gc:c.legs.length<=1000) (hd:1<=d.legs.length) (gd:d.legs.length<=1000):zO 190 [zD yL [a,b,c,d],.fn 218 []] [] (.ref 1001 0 4) [(1001,.arr 5 [qF a 1101,qF b 1102,qF c 1103,qF d 1104] ⟨true,true⟩),(1101,fM a),(1102,fM b),(1103,fM c),(1104,fM d)]:=by
 have ca:=vH a;have da:=gC a ha ga;have cb:=vH b;have db:=bS b hb gb;have cc:=vH c;have dc:=UK c hc gc;have cd:=vH d;have dd:=IU d hd gd;refine eM call190 λF hF=>?_
 refine WW ?_;refine xK 5 1001 5 rfl rfl rfl ?_;refine wM 5 [1001,1101,1102,1103,1104] [5,10,1,8,9] rfl ?_;refine yE (st0:=⟨[(5,.ref 1001 0 0),(10,iA 0),(1,.fn 218 []),(8,.sl false [yL a,yL b,yL c,yL d]),(9,iA 4)],[(1001,.arr 5 [] ⟨true,false⟩)]⟩) rfl ?_
 (have zc1:=ca;have zc2:=da;(repeat' (first|refine aT ?_|refine xR (λhc=>?_) (λhc=>?_)|refine wE (λhc=>?_)|(refine zE ?_;first|(refine yZ ?_;refine dK (xs:=[_]) 1002 tok rfl rfl rfl rfl rfl rfl rfl rfl rfl rfl rfl rfl ?_)|(refine yW ?_;first|refine qE tok rfl rfl rfl rfl rfl rfl rfl (by intro y hy;cases hy;rfl) rfl rfl rfl zU rfl ?_|refine kI tok rfl rfl rfl rfl rfl rfl rfl rfl rfl rfl rfl (by intro y hy;cases hy;rfl) zU rfl ?_))|refine SB ?_|fail))<;>clear zc1 zc2)
 refine yE (st0:=⟨[(5,.ref 1001 0 1),(10,iA 1),(1,.fn 218 []),(8,.sl false [yL a,yL b,yL c,yL d]),(9,iA 4)],[(1001,.arr 5 [qF a 1101] ⟨false,true⟩),(1101,fM a)]⟩) rfl ?_
 (have zc1:=cb;have zc2:=db;(repeat' (first|refine aT ?_|refine xR (λhc=>?_) (λhc=>?_)|refine wE (λhc=>?_)|(refine zE ?_;first|(refine yZ ?_;refine dK (xs:=[_]) 1002 tok rfl rfl rfl rfl rfl rfl rfl rfl rfl rfl rfl rfl ?_)|(refine yW ?_;first|refine qE tok rfl rfl rfl rfl rfl rfl rfl (by intro y hy;cases hy;rfl) rfl rfl rfl zU rfl ?_|refine kI tok rfl rfl rfl rfl rfl rfl rfl rfl rfl rfl rfl (by intro y hy;cases hy;rfl) zU rfl ?_))|refine SB ?_|fail))<;>clear zc1 zc2)
 refine yE (st0:=⟨[(5,.ref 1001 0 2),(10,iA 2),(1,.fn 218 []),(8,.sl false [yL a,yL b,yL c,yL d]),(9,iA 4)],[(1001,.arr 5 [qF a 1101,qF b 1102] ⟨true,true⟩),(1101,fM a),(1102,fM b)]⟩) rfl ?_
 (have zc1:=cc;have zc2:=dc;(repeat' (first|refine aT ?_|refine xR (λhc=>?_) (λhc=>?_)|refine wE (λhc=>?_)|(refine zE ?_;first|(refine yZ ?_;refine dK (xs:=[_]) 1002 tok rfl rfl rfl rfl rfl rfl rfl rfl rfl rfl rfl rfl ?_)|(refine yW ?_;first|refine qE tok rfl rfl rfl rfl rfl rfl rfl (by intro y hy;cases hy;rfl) rfl rfl rfl zU rfl ?_|refine kI tok rfl rfl rfl rfl rfl rfl rfl rfl rfl rfl rfl (by intro y hy;cases hy;rfl) zU rfl ?_))|refine SB ?_|fail))<;>clear zc1 zc2)
 refine yE (st0:=⟨[(5,.ref 1001 0 3),(10,iA 3),(1,.fn 218 []),(8,.sl false [yL a,yL b,yL c,yL d]),(9,iA 4)],[(1001,.arr 5 [qF a 1101,qF b 1102,qF c 1103] ⟨true,true⟩),(1101,fM a),(1102,fM b),(1103,fM c)]⟩) rfl ?_
 (have zc1:=cd;have zc2:=dd;(repeat' (first|refine aT ?_|refine xR (λhc=>?_) (λhc=>?_)|refine wE (λhc=>?_)|(refine zE ?_;first|(refine yZ ?_;refine dK (xs:=[_]) 1002 tok rfl rfl rfl rfl rfl rfl rfl rfl rfl rfl rfl rfl ?_)|(refine yW ?_;first|refine qE tok rfl rfl rfl rfl rfl rfl rfl (by intro y hy;cases hy;rfl) rfl rfl rfl zU rfl ?_|refine kI tok rfl rfl rfl rfl rfl rfl rfl rfl rfl rfl rfl (by intro y hy;cases hy;rfl) zU rfl ?_))|refine SB ?_|fail))<;>clear zc1 zc2)
 refine yE (st0:=⟨[(5,.ref 1001 0 4),(10,iA 4),(1,.fn 218 []),(8,.sl false [yL a,yL b,yL c,yL d]),(9,iA 4)],[(1001,.arr 5 [qF a 1101,qF b 1102,qF c 1103,qF d 1104] ⟨true,true⟩),(1101,fM a),(1102,fM b),(1103,fM c),(1104,fM d)]⟩) rfl ?_;refine WW ?_;exact zJ [1001,1101,1102,1103,1104] rfl rfl rfl rfl
theorem DB (a b c d:Rq) (ha:1<=a.legs.length) (ga:a.legs.length<=1000) (hb:1<=b.legs.length) (gb:b.legs.length<=1000) (hc:1<=c.legs.length) (gc:c.legs.length<=1000) (hd:1<=d.legs.length) (gd:d.legs.length<=1000):zO 193 [zD yL [a,b,c,d]] [] (.ref 1001 0 4) [(1001,.arr 5 [qF a 1101,qF b 1102,qF c 1103,qF d 1104] ⟨true,true⟩),(1101,fM a),(1102,fM b),(1103,fM c),(1104,fM d)]:=by
 have c:=zOr a b c d ha ga hb gb hc gc hd gd;refine eM call193 λF hF=>?_
 refine zW c ?_;exact zJ [1001,1101,1102,1103,1104] rfl rfl rfl rfl
theorem OY (K:List Nat) (h:yI):∀a b:List AV,uX K h (a++b)=uX K h a++uX K h b
 | [],b=>rfl
 |v::a,b=>by rw[yBd,uX,uX,OY K h a b];rfl
theorem IV (K:List Nat) (h:yI):∀l:List Rq,uX K h (l.map yL)=l.map yL
 | []=>rfl
 |r::l=>by rw[yAa,uX,IV K h l];rfl
theorem TU (K:List Nat) (h:yI):∀a b:List AV,wF K h (a++b)=wF K h a++wF K h b
 | [],b=>rfl
 |v::a,b=>by rw[yBd,wF,wF,TU K h a b];rfl
theorem OZ (K:List Nat) (h:yI):∀l:List Rq,wF K h (l.map yL)=l.map yL
 | []=>rfl
 |r::l=>by rw[yAa,wF,OZ K h l];rfl
theorem XZ:∀a b:List AV,wD (a++b)=(wD a&&wD b)
 | [],b=>rfl
 |v::a,b=>by rw[yBd,wD,wD,XZ a b,Bool.and_assoc]
theorem TW:∀l:List Rq,wD (l.map yL)=true
 | []=>rfl
 |r::l=>by rw[yAa,wD,TW l];rfl
def aN (pre:List Rq) (x:Rq) (post:List Rq) (k:Nat):List AV:=pre.map yL++qF x k::post.map yL
theorem YF (pre:List Rq) (x:Rq) (post:List Rq) (k:Nat):(aN pre x post k).length=pre.length+1+post.length:=by simp[aN];omega
theorem UL (h:yI) (pre:List Rq) (x:Rq) (post:List Rq) (b:Bool):qZ [1001,1101] h (.arr 5 (aN pre x post 1101) ⟨b,true⟩)= .arr 5 (aN pre x post 1101) ⟨b,true⟩:=by
 have e:uX [1001,1101] h (aN pre x post 1101)=aN pre x post 1101:=by
  unfold aN;rw[OY,IV,uX,IV];rfl
 have e2:wD (aN pre x post 1101)=false:=by
  unfold aN;rw[XZ,TW,wD];rfl
 show xP.arr 5 (uX [1001,1101] h (aN pre x post 1101)) ⟨b,!wD (uX [1001,1101] h (aN pre x post 1101))⟩=_
 rw[e,e2];rfl
theorem zOs (pre:List Rq) (x:Rq) (post:List Rq) (k:Nat) (y:Rq):aN pre x post k++[yL y]=aN pre x (post++[y]) k:=by
 unfold aN;rw[zYz,zZc];rfl
theorem zOt (pre:List Rq) (x:Rq) (post:List Rq) (l:List Rq) (hL:l=pre++x::post) (hn:l.length<=1000) (hb:∀r∈l,1<=r.legs.length/\r.legs.length<=1000):
  zO 190 [zD yL l,.fn 218 []] [] (.ref 1001 0 (aN pre x post 1101).length) [(1001,.arr 5 (aN pre x post 1101) ⟨true,true⟩),(1101,fM x)]:=by
 have hl:=zA yL l;have hlen:l.length=pre.length+1+post.length:=by rw[hL];simp;omega
 refine eM call190 λF hF=>?_
 refine WW ?_;refine xK 5 1001 5 rfl rfl rfl ?_;refine vA (λn st=>∃i,n+i=l.length/\st=if i<=pre.length then(⟨[(5,.ref 1001 0 ((l.take i).map yL).length),(10,iA i),(1,.fn 218 []),(8,zD yL l),(9,iA (l.map yL).length)],[(1001,.arr 5 ((l.take i).map yL) true)]⟩:St)else⟨[(5,.ref 1001 0 (aN pre x (post.take (i-pre.length-1)) 1101).length),(10,iA i),(1,.fn 218 []),(8,zD yL l),(9,iA (l.map yL).length)],[(1001,.arr 5 (aN pre x (post.take (i-pre.length-1)) 1101) ⟨true,true⟩),(1101,fM x)]⟩) l.length [1001,1101] [5,10,1,8,9] rfl ⟨0,zB,by rw[zYp (zY4 _)];rfl⟩ ?_;rintro n st ⟨i,hi,rfl⟩;by_cases hip:i<pre.length
 ·rw[zYp zB];have hy:=zN yL l i zB;have hm:l.getD i default∈l:=by simp[List.getD,show i<l.length by omega]
  have hs:=hb _ hm
  have e:(l.take (i+1)).map yL=(l.take i).map yL++[yL (l.getD i default)]:=by
   rw[yA6,zYz,zZd zB];simp[List.getD,show i<l.length by omega]
  have hpl:((l.take i).map yL).length=i:=by rw[zYq,zY5];omega
  have hil:i<l.length:=by omega
  clear hm;generalize l.getD i default=r at *;have c1:=vH r;have c2:=VI r zB
  (have zc1:=c1;have zc2:=c2;(repeat' (first|refine qS ?_|refine xR (λhc=>?_) (λhc=>?_)|refine wE (λhc=>?_)|(refine zE ?_;first|(refine yW ?_;refine uF (nw:=[]) (uD true false tok rfl rfl rfl rfl rfl rfl (λh=>by cases h) rfl (by intro y hy;cases hy;rfl) rfl rfl rfl rfl (by simp only[YF,zYq,zY5,zY2,zZz,zZk];omega) (λh=>by cases h)) rfl rfl rfl ?_)|refine SM ?_)|fail))<;>clear zc1 zc2)
  exact⟨n-1,zB,i+1,zB,by rw[zYp zB,e];rfl⟩
 by_cases hie:i=pre.length
 ·rw[zYp zB];subst hie;have hil:pre.length<l.length:=by omega
  have ht:(l.take pre.length).map yL=pre.map yL:=by rw[hL];simp
  have hy:(l.map yL)[pre.length]? =some (yL x):=by rw[hL];simp
  have hs:=hb x (by rw[hL];simp);rw[ht];clear hL;have c1:=vH x;have c2:=gC x zB zB;have hpt:pre.length<=1000:=by omega
  (have zc1:=c1;have zc2:=c2;(repeat' (first|refine aT ?_|refine xR (λhc=>?_) (λhc=>?_)|refine wE (λhc=>?_)|(refine zE ?_;first|(refine yZ ?_;refine dK (xs:=[_]) 1002 tok rfl rfl rfl rfl rfl rfl rfl rfl rfl rfl rfl rfl ?_)|(refine yW ?_;refine uF (nw:=[]) (uD true true tok rfl rfl rfl rfl rfl rfl (λh=>by cases h) rfl (by intro y hy;cases hy;rfl) rfl rfl rfl rfl (by simp only[YF,zYq,zY5,zY2,zZz,zZk];omega) (λh=>by cases h)) rfl rfl rfl ?_))|refine SB ?_|fail))<;>clear zc1 zc2)
  refine⟨n-1,zB,pre.length+1,zB,?_⟩;rw[zYo zB,show pre.length+1-pre.length-1=0 by omega];refine zZl (St.mk _) ?_
  show [(1001,qZ [1001,1101] _ (.arr 5 (aN pre x [] 1101) ⟨true,true⟩)),(1101,fM x)]=_
  rw[UL];rfl
 rw[zYo zB];by_cases hil:i<l.length
 ·have hy:=zN yL l i hil;have hm:l.getD i default∈l:=by simp[List.getD,hil]
  have hs:=hb _ hm
  have hg:post[i-pre.length-1]? =some (l.getD i default):=by
   have h1:l[i]? =some (l.getD i default):=by simp[List.getD,hil]
   rw[hL,zZe zB]at h1;rw[show i-pre.length=(i-pre.length-1)+1 by omega,List.getElem?_cons_succ]at h1;rw[<-hL]at h1;exact h1
  have e:aN pre x (post.take (i+1-pre.length-1)) 1101=aN pre x (post.take (i-pre.length-1)) 1101++[yL (l.getD i default)]:=by
   rw[zOs,show i+1-pre.length-1=(i-pre.length-1)+1 by omega,yA6,hg];rfl
  have hcl:=YF pre x (post.take (i-pre.length-1)) 1101;have hpt:(post.take (i-pre.length-1)).length<=1000:=by rw[zY5];omega
  have hf:=λh=>UL h pre x (post.take (i+1-pre.length-1)) true
  rw[e]at hf;clear hm hg hL;generalize l.getD i default=r at *;generalize aN pre x (post.take (i-pre.length-1)) 1101=cs at *;have c1:=vH r;have c2:=VI r zB
  (have zc1:=c1;have zc2:=c2;(repeat' (first|refine qS ?_|refine xR (λhc=>?_) (λhc=>?_)|refine wE (λhc=>?_)|(refine zE ?_;first|(refine yW ?_;refine uF (nw:=[]) (uD true true tok rfl rfl rfl rfl rfl rfl (λh=>by cases h) rfl (by intro y hy;cases hy;rfl) rfl rfl rfl rfl (by simp only[YF,zYq,zY5,zY2,zZz,zZk];omega) (λh=>by cases h)) rfl rfl rfl ?_)|refine SM ?_)|fail))<;>clear zc1 zc2)
  refine⟨n-1,zB,i+1,zB,?_⟩;rw[zYo zB,e];refine zZl (St.mk _) ?_
  show [(1001,qZ [1001,1101] _ (.arr 5 (cs++[yL r]) ⟨true,true⟩)),(1101,fM x)]=_
  rw[hf]
 ·have hf:=λh=>UL h pre x post true
  rw[show i-pre.length-1=post.length by omega,zYv];generalize aN pre x post 1101=cs at *;refine WW ?_;refine zJ [1001,1101] rfl rfl rfl ?_
  show [(1001,qZ [1001,1101] _ (.arr 5 cs ⟨true,true⟩)),(1101,fM x)]=_
  rw[hf]
theorem DC (pre:List Rq) (x:Rq) (post:List Rq) (l:List Rq) (hL:l=pre++x::post) (hn:l.length<=1000) (hb:∀r∈l,1<=r.legs.length/\r.legs.length<=1000):
  zO 193 [zD yL l] [] (.ref 1001 0 (aN pre x post 1101).length) [(1001,.arr 5 (aN pre x post 1101) ⟨true,true⟩),(1101,fM x)]:=by
 have c:=zOt pre x post l hL hn hb;have hf:=λh=>UL h pre x post true
 generalize aN pre x post 1101=cs at *;refine eM call193 λF hF=>?_
 refine zW c ?_;refine zJ [1001,1101] rfl rfl rfl ?_
 show [(1001,qZ [1001,1101] _ (.arr 5 cs ⟨true,true⟩)),(1101,fM x)]=_
 rw[hf]
def wnA (p:Int×Int):AV:= .agg [iA p.1,iA p.2]
def nwL (now:Int) (g:Lg) (p:Int×Int):Lg:=⟨g.jn,g.ph,now+p.1,now+p.2,g.sc⟩
def okW (now:Int) (g:Lg) (p:Int×Int):Bool:=mwB g.jn g.ph p.1 p.2 now
def DD (gs:List Lg) (w:List (Int×Int)) (now:Int):Bool:=(gs.zipWith (okW now) w).all id
def bT (l:List Rq) (id:Int) (w:List (Int×Int)) (now:Int):Int:=
 if gI l id=true then(if w.length=(fdQ l id).legs.length/\DD (fdQ l id).legs w now=true then 0 else 8)else 12
def MV (l:List Rq) (id:Int) (w:List (Int×Int)) (now:Int):List Rq:=l.map λr=>if r.id=id then⟨r.id,r.vh,r.cls,r.til,r.legs.zipWith (nwL now) w⟩else r
def BM (gs:List Lg) (w:List (Int×Int)) (now:Int) (i:Nat):List Lg:=(gs.take i).zipWith (nwL now) (w.take i)++gs.drop i
theorem zCf {gs:List Lg} {w:List (Int×Int)} {now:Int} {i:Nat} (h:w.length=gs.length) (hi:i<=gs.length):(BM gs w now i).length=gs.length:=by
 unfold BM;rw[zYr,yCv,zY5,zY5,zZk];omega
theorem zTg {gs:List Lg} {w:List (Int×Int)} {now:Int} {i:Nat} (h:w.length=gs.length) (hi:i<gs.length):((BM gs w now i).map xW)[i]? =some (xW (gs.getD i default)):=by
 unfold BM;have e:((gs.take i).zipWith (nwL now) (w.take i)).length=i:=by rw[yCv,zY5,zY5];omega
 rw[zYt,zZe zB,e,yA0,yAj];simp[List.getD,hi]
theorem zOu {gs:List Lg} {w:List (Int×Int)} {now:Int} {i:Nat} (h:w.length=gs.length) (hi:i<gs.length):((BM gs w now i).map xW).set i (xW (nwL now (gs.getD i default) (w.getD i default)))=(BM gs w now (i+1)).map xW:=by
 unfold BM;have e:((gs.take i).zipWith (nwL now) (w.take i)).length=i:=by rw[yCv,zY5,zY5];omega
 rw[<-yAw,yBr _ _ zB,e,yA0,yBo hi,yC0];rw[yA6,yA6,List.zipWith_append (by rw[zY5,zY5];omega)];rw[zZd hi,zZd zB];simp[List.getD,hi,show i<w.length by omega]
theorem zWl (gs:List Lg) (w:List (Int×Int)) (now:Int):BM gs w now 0=gs:=by simp[BM]
theorem zOv {gs:List Lg} {w:List (Int×Int)} {now:Int} (h:w.length=gs.length):BM gs w now gs.length=gs.zipWith (nwL now) w:=by
 unfold BM;rw[zYv,<-h,zYv,h,yCi,zZo]
theorem zOw {gs:List Lg} {w:List (Int×Int)} {now:Int} (h:w.length=gs.length) (ha:∀i,i<gs.length->okW now (gs.getD i default) (w.getD i default)=true):DD gs w now=true:=by
 unfold DD;rw[zY3];intro b hb;obtain⟨i,hi,rfl⟩:=yCq.1 hb;rw[yCv]at hi;have:=ha i zB;rw[List.getElem_zipWith];simpa [List.getD,show i<gs.length by omega,show i<w.length by omega]using this
theorem zTh {gs:List Lg} {w:List (Int×Int)} {now:Int} {i:Nat} (h:w.length=gs.length) (hi:i<gs.length) (ha:okW now (gs.getD i default) (w.getD i default)=false):DD gs w now=false:=by
 unfold DD;rw[yBp];refine⟨okW now (gs.getD i default) (w.getD i default),?_,by rw[ha];decide⟩
 have:(gs.zipWith (okW now) w)[i]? =some (okW now (gs.getD i default) (w.getD i default)):=by
  rw[yDw,zZd hi,zZd zB];simp[List.getD,hi,show i<w.length by omega]
 exact zZ4 this
theorem zCg {l pre post:List Rq} {x:Rq} {id:Int} {w:List (Int×Int)} {now:Int} (hL:l=pre++x::post) (hv:aM l) (hx:x.id=id):MV l id w now=pre++⟨x.id,x.vh,x.cls,x.til,x.legs.zipWith (nwL now) w⟩::post:=by
 have hs:=hv.so;rw[hL,yCr,yCz]at hs;obtain⟨_,⟨h2,_⟩,h3⟩:=hs;unfold MV;rw[hL,zYz,yAa,zYp hx]
 congr 1
 ·conv=>rhs;rw[<-List.map_id pre]
  refine yB7 λy hy=>?_
  have:=h3 y hy x zU;rw[zYo zB];rfl
 ·congr 1
  conv=>rhs;rw[<-List.map_id post]
  refine yB7 λy hy=>?_
  have:=h2 y hy;rw[zYo zB];rfl
theorem zOx {h:yI} {pre post:List Rq} {x:Rq} {b:Bool} {gs:List Lg} (h1:h 1001=some (.arr 5 (aN pre x post 1101) ⟨b,true⟩)) (h2:h 1101=some (.arr 5 (gs.map xW) false)) (hl:gs.length=x.legs.length):
  wQ [] h (.ref 1001 0 (aN pre x post 1101).length)=zD yL (pre++⟨x.id,x.vh,x.cls,x.til,gs⟩::post):=by
 have e:wF [] h (aN pre x post 1101)=(pre++⟨x.id,x.vh,x.cls,x.til,gs⟩::post).map yL:=by
  unfold aN;rw[TU,OZ,wF,OZ,zYz,yAa]
  congr 1
  congr 1
  show AV.agg [iA x.id,iA x.vh,iA x.cls,iA x.til,vS [] h (.ref 1101 0 (x.legs.map xW).length)]=_
  have e2:vS [] h (.ref 1101 0 (x.legs.map xW).length)=zD xW gs:=by
   simp only[vS,h2]
   show AV.sl false (((gs.map xW).drop 0).take (x.legs.map xW).length)=_
   rw[zZv,zYq,zYy (by rw[zYq,hl];exact zYs _)];rfl
  rw[e2];rfl
 have hl2:(aN pre x post 1101).length=((pre++⟨x.id,x.vh,x.cls,x.til,gs⟩::post).map yL).length:=by rw[YF];simp;omega
 rw[hl2];simp only[wQ,h1]
 show(bif wD (wF [] h (aN pre x post 1101))then AV.sl false (((wF [] h (aN pre x post 1101)).drop 0).take _)else .bot)=_
 rw[e,TW,zZv,zYv];rfl
theorem LX {l:List Rq} {id:Int} (h:gI l id=true):∃pre x post,l=pre++x::post/\x.id=id/\(∀y∈pre,y.id≠id)/\fdQ l id=x/\TA (λr:Rq=>r.id==id) l=(pre.length:Int):=by
 induction l with
 |nil=>cases h
 | cons a l ih=>
  by_cases ha:a.id=id
  ·refine⟨[],a,l,rfl,ha,by simp,(zCk (pre:=[]) rfl zU ha).1,QI (pre:=[]) rfl zU (by simpa using ha)⟩
  ·have h2:gI l id=true:=by simpa [gI,ha]using h
   obtain⟨pre,x,post,e1,e2,e3,_,_⟩:=ih h2
   have hp:∀y∈a::pre,y.id≠id:=λy hy=>by
    rcases zZ5.1 hy with rfl|hy
    ·exact ha
    ·exact e3 y hy
   have e:a::l=(a::pre)++x::post:=by rw[e1];rfl
   exact⟨a::pre,x,post,e,e2,hp,(zCk e hp e2).1,QI e (λy hy=>by simpa using hp y hy) (by simpa using e2)⟩
theorem zIh (l:List Rq) (id:Int) (w:List (Int×Int)) (now:Int) (hv:aM l) (hw:w.length<=1000) (n0:0<=now) (n1:now<=1073741824):
  zO 239 [zD yL l,iA id,zD wnA w,iA now] [] (.tup [zD yL (if bT l id w now=0 then MV l id w now else []),iA (bT l id w now)]) []:=by
 have h4:=hv.n4;have hlw:=zA wnA w;have c1:=VG l 4 hv zB;have c2:=zBx now;have c3:=NA l id zB;rw[zYu ⟨n0,n1⟩]at c2
 cases hh:gI l id with
 |false=>
  have hx:=ZF (p:=λx:Rq=>x.id==id) (l:=l) (by simpa [gI]using hh);rw[hx]at c3;have e:bT l id w now=12:=zYo (by rw[hh];decide);rw[e,zYo xN];refine eM call239 λF hF=>?_
  refine xA (gK c1 c2 c3) ?_;exact zL
 |true=>
 obtain⟨pre,x,post,hL,hx,_,hf,hix⟩:=LX hh;rw[hix]at c3;have hup:=zCg (w:=w) (now:=now) hL hv hx
 have e0:bT l id w now=if w.length=x.legs.length/\DD x.legs w now=true then 0 else 8:=by unfold bT;rw[zYp hh,hf]
 have hlen:l.length=pre.length+1+post.length:=by rw[hL];simp;omega
 have hxl:=hv.lg3 (r:=x) (by rw[hL];simp);have c4:=DC pre x post l hL zB (λr hr=>by have:=hv.lg3 hr;omega);have hcl:=YF pre x post 1101;have hfr:=λh=>UL h pre x post true
 have hat:(aN pre x post 1101)[((pre.length:Int)).toNat]? =some (qF x 1101):=by unfold aN;simp
 have hfin:=λh gs=>zOx (h:=h) (pre:=pre) (post:=post) (x:=x) (b:=true) (gs:=gs)
 have hlx:=zA xW x.legs;generalize aN pre x post 1101=cs at *;clear hL hv hix hf hh hx;by_cases hwl:w.length=x.legs.length
 case neg=>
  rw[zYo (λh=>hwl h.1)]at e0;rw[e0,zYo xN];refine eM call239 λF hF=>?_
  refine xA (aG c1 c2 c3 c4) ?_;exact zL
 refine eM call239 λF hF=>?_
 refine xA (aG c1 c2 c3 c4) ?_;refine vA (λn st=>∃i,n+i=x.legs.length/\(∀j,j<i->okW now (x.legs.getD j default) (w.getD j default)=true)/\st=(⟨[(44,iA i),(3,iA now),(11,.ref 1001 0 cs.length),(12,.ref 1101 0 (x.legs.map xW).length),(42,zD wnA w),(43,iA (w.map wnA).length)],[(1001,.arr 5 cs ⟨true,true⟩),(1101,.arr 5 ((BM x.legs w now i).map xW) false)]⟩:St)) x.legs.length [1001,1101] [44,3,11,12,42,43] rfl ⟨0,zB,λj hj=>absurd hj (yBb _),?_⟩ ?_
 ·rw[zWl];refine zZl (St.mk _) ?_
  show [(1001,qZ [1001,1101] _ (.arr 5 cs ⟨true,true⟩)),(1101,fM x)]=_
  rw[hfr];rfl
 rintro n st ⟨i,hi,hok,rfl⟩;by_cases hil:i<x.legs.length
 ·have hul:=zCf (i:=i) (now:=now) hwl zB;have hlu:=zA xW (BM x.legs w now i);have hy2:=zN wnA w i zB;have hy:=zTg (now:=now) hwl hil;have hst:=zOu (now:=now) hwl hil;have c5:=zBv (x.legs.getD i default).jn (x.legs.getD i default).ph (w.getD i default).1 (w.getD i default).2 now
  cases hb:okW now (x.legs.getD i default) (w.getD i default)with
  |false=>
   have hno:=zTh hwl hil hb;rw[zYo (λh=>by rw[hno]at h;cases h.2)]at e0;rw[e0,zYo xN];unfold okW at hb;unfold mwF at c5;rw[hb,zYo zZb,zYo zZb]at c5;clear hok hfin hup hno hst;generalize x.legs.getD i default=g at *;generalize w.getD i default=q at *;generalize (BM x.legs w now i).map xW=ys at *;refine zW c5 ?_;exact zL
  | true=>
   have hok2:∀j,j<i+1->okW now (x.legs.getD j default) (w.getD j default)=true:=λj hj=>by
    by_cases hji:j=i
    ·rw[hji];exact hb
    ·exact hok j zB
   unfold okW at hb;unfold mwF at c5;rw[hb,zYp rfl,zYp rfl]at c5;have hset:∀y:AV,(((BM x.legs w now i).map xW).set i y)[i]? =some y:=λy=>yAg zB
   clear hok hfin hup e0 hb;generalize x.legs.getD i default=g at *;generalize w.getD i default=q at *;generalize (BM x.legs w now i).map xW=ys at*
   (have zc1:=c5;(repeat' (first|refine WTR ?_|refine xR (λhc=>?_) (λhc=>?_)|refine wE (λhc=>?_)|(refine zE ?_;first|(refine dE ?_;refine OT tok rfl rfl rfl (hset _) rfl rfl rfl rfl rfl rfl rfl rfl ?_)|refine SM ?_)|refine SB ?_|fail))<;>clear zc1)
   refine⟨n-1,zB,i+1,zB,hok2,?_⟩;refine zZl (St.mk _) ?_
   show [(1001,qZ [1001,1101] _ (.arr 5 cs ⟨true,true⟩)),(1101,.arr 5 ((ys.set i _).set i (xW (nwL now g q))) false)]=_
   rw[hfr,yDl,hst]
 ·obtain rfl:i=x.legs.length:=by omega
  have hul:=zCf (i:=x.legs.length) (now:=now) hwl (zYs _);have hyes:=zOw hwl hok;rw[zYp ⟨hwl,hyes⟩]at e0;rw[e0,zYp rfl,hup];rw[zOv hwl]at hul⊢;generalize x.legs.zipWith (nwL now) w=gs at *;refine WW ?_;refine zI [] rfl rfl ?_ rfl
  show AV.tup [XU (wQ [] _ (.ref 1001 0 cs.length)),iA 0]=_
  rw[hfin _ gs rfl rfl hul];rfl
def mkR (now:Int) (r:Rq):Rq:=⟨r.id,r.vh,r.cls,r.til,r.legs.map λg=>aU g now⟩
def mkQ (l:List Rq) (now:Int):List Rq:=l.map (mkR now)
def fV (l:List Lg) (now:Int) (k:Nat):List Lg:=(l.take k).map (λg=>aU g now)++l.drop k
theorem QH (l:List Lg) (now:Int):fV l now l.length=l.map λg=>aU g now:=by simp[fV]
theorem fA (l:List Lg) (now:Int) (k:Nat):(fV l now k).length=l.length:=by simp[fV];omega
theorem cJ {l pre post:List Lg} {g:Lg} {k:Nat} (now:Int) (hx:l=pre++g::post) (hk:pre.length=k):((fV l now k).map xW)[k]? =some (xW g):=by
 subst hx hk;simp[fV]
theorem fB {l pre post:List Lg} {g:Lg} {k:Nat} (now:Int) (hx:l=pre++g::post) (hk:pre.length=k):(fV l now (k+1)).map xW=((fV l now k).map xW).set k (xW (aU g now)):=by
 subst hx hk;have e1:(pre++g::post).take (pre.length+1)=pre++[g]:=by rw[List.take_append,zYy zB];simp
 have e2:(pre++g::post).drop (pre.length+1)=post:=by rw[List.drop_append];simp
 have e3:(pre++g::post).take pre.length=pre:=by simp
 have e4:(pre++g::post).drop pre.length=g::post:=by simp
 unfold fV;rw[e1,e2,e3,e4];simp
theorem tkM (l:List Lg) (now:Int):List.take (l.map xW).length (List.drop 0 ((l.map λg=>aU g now).map xW))=(l.map λg=>aU g now).map xW:=by
 rw[zZv];exact zYy zU
def fC (r:Rq) (now:Int) (k:Nat):xP:= .arr 5 ((fV r.legs now k).map xW) false
theorem zOy (a:Rq) (ha:1<=a.legs.length) (ga:a.legs.length<=1000) (now:Int):zO 159 [zD yL [a],iA now] [] (zD yL (mkQ [a] now)) []:=by
 have kc:=EY a ha ga;have la:=zA xW a.legs;refine eM call159 λF hF=>?_
 refine zW kc ?_;refine wM 2 [1001,1101] [13,11,12,1,5] rfl ?_;refine yE (st0:=⟨[(13,iA 0),(11,.ref 1001 0 1),(12,iA 1),(1,iA now),(5,.ref 1001 0 1)],[(1001,.arr 5 [qF a 1101] ⟨false,true⟩),(1101,fC a now 0)]⟩) rfl ?_;unfold fC;refine WW ?_;refine yS (a.legs) [1101,7,1001] [7,1001] [1,5,7,11,12,13,19] [20,1,5,7,11,12,13,19] rfl (λi pre T U=>⟨(20,iA i)::T,(1101,.arr 5 ((fV a.legs now i).map xW) false)::U⟩) ?_;(conv=>whnf);refine⟨by rfl,?_,?_⟩
 ·intro k pre g post hx hk;have hlt:=yX hx hk;have hy:=cJ now hx hk;have hs:=fB now hx hk;have hyl:((fV a.legs now k).map xW).length=a.legs.length:=by rw[zYq,fA]
  have hset:∀y:AV,(((fV a.legs now k).map xW).set k y)[k]? =some y:=λy=>yAg zB
  have cw:=gW g now;rw[hs];clear hx hs;generalize (fV a.legs now k).map xW=ys at *;generalize aU g now=g2 at*
  (have zc1:=cw;(repeat' (first|refine qS ?_|refine xR (λhc=>?_) (λhc=>?_)|refine wE (λhc=>?_)|fail))<;>clear zc1)
  rfl
 refine WW ?_;refine yE (st0:=⟨[(13,iA 1),(11,.ref 1001 0 1),(12,iA 1),(1,iA now),(5,.ref 1001 0 1)],[(1001,.arr 5 [qF a 1101] ⟨false,true⟩),(1101,fC a now a.legs.length)]⟩) rfl ?_;unfold fC;simp only[QH];refine WW ?_;refine zI [] rfl rfl ?_ rfl
 show AV.sl false [.agg [iA a.id,iA a.vh,iA a.cls,iA a.til,.sl false (List.take (a.legs.map xW).length (List.drop 0 ((a.legs.map λg=>aU g now).map xW)))]]=_
 simp only[tkM];rfl
theorem zOz (a b:Rq) (ha:1<=a.legs.length) (ga:a.legs.length<=1000) (hb:1<=b.legs.length) (gb:b.legs.length<=1000) (now:Int):zO 159 [zD yL [a,b],iA now] [] (zD yL (mkQ [a,b] now)) []:=by
 have kc:=EZ a b ha ga hb gb;have la:=zA xW a.legs;have lb:=zA xW b.legs;refine eM call159 λF hF=>?_
 refine zW kc ?_;refine wM 3 [1001,1101,1102] [13,11,12,1,5] rfl ?_;refine yE (st0:=⟨[(13,iA 0),(11,.ref 1001 0 2),(12,iA 2),(1,iA now),(5,.ref 1001 0 2)],[(1001,.arr 5 [qF a 1101,qF b 1102] ⟨true,true⟩),(1101,fC a now 0),(1102,fC b now 0)]⟩) rfl ?_;unfold fC;refine WW ?_;refine yS (a.legs) [1101,7,1001,1102] [7,1001,1102] [1,5,7,11,12,13,19] [20,1,5,7,11,12,13,19] rfl (λi pre T U=>⟨(20,iA i)::T,(1101,.arr 5 ((fV a.legs now i).map xW) false)::U⟩) ?_;(conv=>whnf);refine⟨by rfl,?_,?_⟩
 ·intro k pre g post hx hk;have hlt:=yX hx hk;have hy:=cJ now hx hk;have hs:=fB now hx hk;have hyl:((fV a.legs now k).map xW).length=a.legs.length:=by rw[zYq,fA]
  have hset:∀y:AV,(((fV a.legs now k).map xW).set k y)[k]? =some y:=λy=>yAg zB
  have cw:=gW g now;rw[hs];clear hx hs;generalize (fV a.legs now k).map xW=ys at *;generalize aU g now=g2 at*
  (have zc1:=cw;(repeat' (first|refine qS ?_|refine xR (λhc=>?_) (λhc=>?_)|refine wE (λhc=>?_)|fail))<;>clear zc1)
  rfl
 refine WW ?_;refine yE (st0:=⟨[(13,iA 1),(11,.ref 1001 0 2),(12,iA 2),(1,iA now),(5,.ref 1001 0 2)],[(1001,.arr 5 [qF a 1101,qF b 1102] ⟨true,true⟩),(1101,fC a now a.legs.length),(1102,fC b now 0)]⟩) rfl ?_;unfold fC;refine WW ?_;refine yS (b.legs) [1102,7,1001,1101] [7,1001,1101] [1,5,7,11,12,13,19] [20,1,5,7,11,12,13,19] rfl (λi pre T U=>⟨(20,iA i)::T,(1102,.arr 5 ((fV b.legs now i).map xW) false)::U⟩) ?_;(conv=>whnf);refine⟨by rfl,?_,?_⟩
 ·intro k pre g post hx hk;have hlt:=yX hx hk;have hy:=cJ now hx hk;have hs:=fB now hx hk;have hyl:((fV b.legs now k).map xW).length=b.legs.length:=by rw[zYq,fA]
  have hset:∀y:AV,(((fV b.legs now k).map xW).set k y)[k]? =some y:=λy=>yAg zB
  have cw:=gW g now;rw[hs];clear hx hs;generalize (fV b.legs now k).map xW=ys at *;generalize aU g now=g2 at*
  (have zc1:=cw;(repeat' (first|refine qS ?_|refine xR (λhc=>?_) (λhc=>?_)|refine wE (λhc=>?_)|fail))<;>clear zc1)
  rfl
 refine WW ?_;refine yE (st0:=⟨[(13,iA 2),(11,.ref 1001 0 2),(12,iA 2),(1,iA now),(5,.ref 1001 0 2)],[(1001,.arr 5 [qF a 1101,qF b 1102] ⟨true,true⟩),(1101,fC a now a.legs.length),(1102,fC b now b.legs.length)]⟩) rfl ?_;unfold fC;simp only[QH];refine WW ?_;refine zI [] rfl rfl ?_ rfl
 show AV.sl false [.agg [iA a.id,iA a.vh,iA a.cls,iA a.til,.sl false (List.take (a.legs.map xW).length (List.drop 0 ((a.legs.map λg=>aU g now).map xW)))],.agg [iA b.id,iA b.vh,iA b.cls,iA b.til,.sl false (List.take (b.legs.map xW).length (List.drop 0 ((b.legs.map λg=>aU g now).map xW)))]]=_
 simp only[tkM];rfl
theorem zO0 (a b c:Rq) (ha:1<=a.legs.length) (ga:a.legs.length<=1000) (hb:1<=b.legs.length) (gb:b.legs.length<=1000) (hc:1<=c.legs.length) (gc:c.legs.length<=1000) (now:Int):zO 159 [zD yL [a,b,c],iA now] [] (zD yL (mkQ [a,b,c] now)) []:=by
 have kc:=DA a b c ha ga hb gb hc gc;have la:=zA xW a.legs;have lb:=zA xW b.legs;have lc:=zA xW c.legs;refine eM call159 λF hF=>?_
 refine zW kc ?_;refine wM 4 [1001,1101,1102,1103] [13,11,12,1,5] rfl ?_;refine yE (st0:=⟨[(13,iA 0),(11,.ref 1001 0 3),(12,iA 3),(1,iA now),(5,.ref 1001 0 3)],[(1001,.arr 5 [qF a 1101,qF b 1102,qF c 1103] ⟨true,true⟩),(1101,fC a now 0),(1102,fC b now 0),(1103,fC c now 0)]⟩) rfl ?_;unfold fC;refine WW ?_;refine yS (a.legs) [1101,7,1001,1102,1103] [7,1001,1102,1103] [1,5,7,11,12,13,19] [20,1,5,7,11,12,13,19] rfl (λi pre T U=>⟨(20,iA i)::T,(1101,.arr 5 ((fV a.legs now i).map xW) false)::U⟩) ?_;(conv=>whnf);refine⟨by rfl,?_,?_⟩
 ·intro k pre g post hx hk;have hlt:=yX hx hk;have hy:=cJ now hx hk;have hs:=fB now hx hk;have hyl:((fV a.legs now k).map xW).length=a.legs.length:=by rw[zYq,fA]
  have hset:∀y:AV,(((fV a.legs now k).map xW).set k y)[k]? =some y:=λy=>yAg zB
  have cw:=gW g now;rw[hs];clear hx hs;generalize (fV a.legs now k).map xW=ys at *;generalize aU g now=g2 at*
  (have zc1:=cw;(repeat' (first|refine qS ?_|refine xR (λhc=>?_) (λhc=>?_)|refine wE (λhc=>?_)|fail))<;>clear zc1)
  rfl
 refine WW ?_;refine yE (st0:=⟨[(13,iA 1),(11,.ref 1001 0 3),(12,iA 3),(1,iA now),(5,.ref 1001 0 3)],[(1001,.arr 5 [qF a 1101,qF b 1102,qF c 1103] ⟨true,true⟩),(1101,fC a now a.legs.length),(1102,fC b now 0),(1103,fC c now 0)]⟩) rfl ?_;unfold fC;refine WW ?_;refine yS (b.legs) [1102,7,1001,1101,1103] [7,1001,1101,1103] [1,5,7,11,12,13,19] [20,1,5,7,11,12,13,19] rfl (λi pre T U=>⟨(20,iA i)::T,(1102,.arr 5 ((fV b.legs now i).map xW) false)::U⟩) ?_;(conv=>whnf);refine⟨by rfl,?_,?_⟩
 ·intro k pre g post hx hk;have hlt:=yX hx hk;have hy:=cJ now hx hk;have hs:=fB now hx hk;have hyl:((fV b.legs now k).map xW).length=b.legs.length:=by rw[zYq,fA]
  have hset:∀y:AV,(((fV b.legs now k).map xW).set k y)[k]? =some y:=λy=>yAg zB
  have cw:=gW g now;rw[hs];clear hx hs;generalize (fV b.legs now k).map xW=ys at *;generalize aU g now=g2 at*
  (have zc1:=cw;(repeat' (first|refine qS ?_|refine xR (λhc=>?_) (λhc=>?_)|refine wE (λhc=>?_)|fail))<;>clear zc1)
  rfl
 refine WW ?_;refine yE (st0:=⟨[(13,iA 2),(11,.ref 1001 0 3),(12,iA 3),(1,iA now),(5,.ref 1001 0 3)],[(1001,.arr 5 [qF a 1101,qF b 1102,qF c 1103] ⟨true,true⟩),(1101,fC a now a.legs.length),(1102,fC b now b.legs.length),(1103,fC c now 0)]⟩) rfl ?_;unfold fC;refine WW ?_;refine yS (c.legs) [1103,7,1001,1101,1102] [7,1001,1101,1102] [1,5,7,11,12,13,19] [20,1,5,7,11,12,13,19] rfl (λi pre T U=>⟨(20,iA i)::T,(1103,.arr 5 ((fV c.legs now i).map xW) false)::U⟩) ?_;(conv=>whnf);refine⟨by rfl,?_,?_⟩
 ·intro k pre g post hx hk;have hlt:=yX hx hk;have hy:=cJ now hx hk;have hs:=fB now hx hk;have hyl:((fV c.legs now k).map xW).length=c.legs.length:=by rw[zYq,fA]
  have hset:∀y:AV,(((fV c.legs now k).map xW).set k y)[k]? =some y:=λy=>yAg zB
  have cw:=gW g now;rw[hs];clear hx hs;generalize (fV c.legs now k).map xW=ys at *;generalize aU g now=g2 at*
  (have zc1:=cw;(repeat' (first|refine qS ?_|refine xR (λhc=>?_) (λhc=>?_)|refine wE (λhc=>?_)|fail))<;>clear zc1)
  rfl
 refine WW ?_;refine yE (st0:=⟨[(13,iA 3),(11,.ref 1001 0 3),(12,iA 3),(1,iA now),(5,.ref 1001 0 3)],[(1001,.arr 5 [qF a 1101,qF b 1102,qF c 1103] ⟨true,true⟩),(1101,fC a now a.legs.length),(1102,fC b now b.legs.length),(1103,fC c now c.legs.length)]⟩) rfl ?_;unfold fC;simp only[QH];refine WW ?_;refine zI [] rfl rfl ?_ rfl
 show AV.sl false [.agg [iA a.id,iA a.vh,iA a.cls,iA a.til,.sl false (List.take (a.legs.map xW).length (List.drop 0 ((a.legs.map λg=>aU g now).map xW)))],.agg [iA b.id,iA b.vh,iA b.cls,iA b.til,.sl false (List.take (b.legs.map xW).length (List.drop 0 ((b.legs.map λg=>aU g now).map xW)))],.agg [iA c.id,iA c.vh,iA c.cls,iA c.til,.sl false (List.take (c.legs.map xW).length (List.drop 0 ((c.legs.map λg=>aU g now).map xW)))]]=_
 simp only[tkM];rfl
theorem zO1 (a b c d:Rq) (ha:1<=a.legs.length) (ga:a.legs.length<=1000) (hb:1<=b.legs.length) (gb:b.legs.length<=1000) (hc:1<=c.legs.length) (gc:c.legs.length<=1000) (hd:1<=d.legs.length) (gd:d.legs.length<=1000) (now:Int):zO 159 [zD yL [a,b,c,d],iA now] [] (zD yL (mkQ [a,b,c,d] now)) []:=by
 have kc:=DB a b c d ha ga hb gb hc gc hd gd;have la:=zA xW a.legs;have lb:=zA xW b.legs;have lc:=zA xW c.legs;have ld:=zA xW d.legs;refine eM call159 λF hF=>?_
 refine zW kc ?_;refine wM 5 [1001,1101,1102,1103,1104] [13,11,12,1,5] rfl ?_;refine yE (st0:=⟨[(13,iA 0),(11,.ref 1001 0 4),(12,iA 4),(1,iA now),(5,.ref 1001 0 4)],[(1001,.arr 5 [qF a 1101,qF b 1102,qF c 1103,qF d 1104] ⟨true,true⟩),(1101,fC a now 0),(1102,fC b now 0),(1103,fC c now 0),(1104,fC d now 0)]⟩) rfl ?_;unfold fC;refine WW ?_;refine yS (a.legs) [1101,7,1001,1102,1103,1104] [7,1001,1102,1103,1104] [1,5,7,11,12,13,19] [20,1,5,7,11,12,13,19] rfl (λi pre T U=>⟨(20,iA i)::T,(1101,.arr 5 ((fV a.legs now i).map xW) false)::U⟩) ?_;(conv=>whnf);refine⟨by rfl,?_,?_⟩
 ·intro k pre g post hx hk;have hlt:=yX hx hk;have hy:=cJ now hx hk;have hs:=fB now hx hk;have hyl:((fV a.legs now k).map xW).length=a.legs.length:=by rw[zYq,fA]
  have hset:∀y:AV,(((fV a.legs now k).map xW).set k y)[k]? =some y:=λy=>yAg zB
  have cw:=gW g now;rw[hs];clear hx hs;generalize (fV a.legs now k).map xW=ys at *;generalize aU g now=g2 at*
  (have zc1:=cw;(repeat' (first|refine qS ?_|refine xR (λhc=>?_) (λhc=>?_)|refine wE (λhc=>?_)|fail))<;>clear zc1)
  rfl
 refine WW ?_;refine yE (st0:=⟨[(13,iA 1),(11,.ref 1001 0 4),(12,iA 4),(1,iA now),(5,.ref 1001 0 4)],[(1001,.arr 5 [qF a 1101,qF b 1102,qF c 1103,qF d 1104] ⟨true,true⟩),(1101,fC a now a.legs.length),(1102,fC b now 0),(1103,fC c now 0),(1104,fC d now 0)]⟩) rfl ?_;unfold fC;refine WW ?_;refine yS (b.legs) [1102,7,1001,1101,1103,1104] [7,1001,1101,1103,1104] [1,5,7,11,12,13,19] [20,1,5,7,11,12,13,19] rfl (λi pre T U=>⟨(20,iA i)::T,(1102,.arr 5 ((fV b.legs now i).map xW) false)::U⟩) ?_;(conv=>whnf);refine⟨by rfl,?_,?_⟩
 ·intro k pre g post hx hk;have hlt:=yX hx hk;have hy:=cJ now hx hk;have hs:=fB now hx hk;have hyl:((fV b.legs now k).map xW).length=b.legs.length:=by rw[zYq,fA]
  have hset:∀y:AV,(((fV b.legs now k).map xW).set k y)[k]? =some y:=λy=>yAg zB
  have cw:=gW g now;rw[hs];clear hx hs;generalize (fV b.legs now k).map xW=ys at *;generalize aU g now=g2 at*
  (have zc1:=cw;(repeat' (first|refine qS ?_|refine xR (λhc=>?_) (λhc=>?_)|refine wE (λhc=>?_)|fail))<;>clear zc1)
  rfl
 refine WW ?_;refine yE (st0:=⟨[(13,iA 2),(11,.ref 1001 0 4),(12,iA 4),(1,iA now),(5,.ref 1001 0 4)],[(1001,.arr 5 [qF a 1101,qF b 1102,qF c 1103,qF d 1104] ⟨true,true⟩),(1101,fC a now a.legs.length),(1102,fC b now b.legs.length),(1103,fC c now 0),(1104,fC d now 0)]⟩) rfl ?_;unfold fC;refine WW ?_;refine yS (c.legs) [1103,7,1001,1101,1102,1104] [7,1001,1101,1102,1104] [1,5,7,11,12,13,19] [20,1,5,7,11,12,13,19] rfl (λi pre T U=>⟨(20,iA i)::T,(1103,.arr 5 ((fV c.legs now i).map xW) false)::U⟩) ?_;(conv=>whnf);refine⟨by rfl,?_,?_⟩
 ·intro k pre g post hx hk;have hlt:=yX hx hk;have hy:=cJ now hx hk;have hs:=fB now hx hk;have hyl:((fV c.legs now k).map xW).length=c.legs.length:=by rw[zYq,fA]
  have hset:∀y:AV,(((fV c.legs now k).map xW).set k y)[k]? =some y:=λy=>yAg zB
  have cw:=gW g now;rw[hs];clear hx hs;generalize (fV c.legs now k).map xW=ys at *;generalize aU g now=g2 at*
  (have zc1:=cw;(repeat' (first|refine qS ?_|refine xR (λhc=>?_) (λhc=>?_)|refine wE (λhc=>?_)|fail))<;>clear zc1)
  rfl
 refine WW ?_;refine yE (st0:=⟨[(13,iA 3),(11,.ref 1001 0 4),(12,iA 4),(1,iA now),(5,.ref 1001 0 4)],[(1001,.arr 5 [qF a 1101,qF b 1102,qF c 1103,qF d 1104] ⟨true,true⟩),(1101,fC a now a.legs.length),(1102,fC b now b.legs.length),(1103,fC c now c.legs.length),(1104,fC d now 0)]⟩) rfl ?_;unfold fC;refine WW ?_;refine yS (d.legs) [1104,7,1001,1101,1102,1103] [7,1001,1101,1102,1103] [1,5,7,11,12,13,19] [20,1,5,7,11,12,13,19] rfl (λi pre T U=>⟨(20,iA i)::T,(1104,.arr 5 ((fV d.legs now i).map xW) false)::U⟩) ?_;(conv=>whnf);refine⟨by rfl,?_,?_⟩
 ·intro k pre g post hx hk;have hlt:=yX hx hk;have hy:=cJ now hx hk;have hs:=fB now hx hk;have hyl:((fV d.legs now k).map xW).length=d.legs.length:=by rw[zYq,fA]
  have hset:∀y:AV,(((fV d.legs now k).map xW).set k y)[k]? =some y:=λy=>yAg zB
  have cw:=gW g now;rw[hs];clear hx hs;generalize (fV d.legs now k).map xW=ys at *;generalize aU g now=g2 at*
  (have zc1:=cw;(repeat' (first|refine qS ?_|refine xR (λhc=>?_) (λhc=>?_)|refine wE (λhc=>?_)|fail))<;>clear zc1)
  rfl
 refine WW ?_;refine yE (st0:=⟨[(13,iA 4),(11,.ref 1001 0 4),(12,iA 4),(1,iA now),(5,.ref 1001 0 4)],[(1001,.arr 5 [qF a 1101,qF b 1102,qF c 1103,qF d 1104] ⟨true,true⟩),(1101,fC a now a.legs.length),(1102,fC b now b.legs.length),(1103,fC c now c.legs.length),(1104,fC d now d.legs.length)]⟩) rfl ?_;unfold fC;simp only[QH];refine WW ?_;refine zI [] rfl rfl ?_ rfl
 show AV.sl false [.agg [iA a.id,iA a.vh,iA a.cls,iA a.til,.sl false (List.take (a.legs.map xW).length (List.drop 0 ((a.legs.map λg=>aU g now).map xW)))],.agg [iA b.id,iA b.vh,iA b.cls,iA b.til,.sl false (List.take (b.legs.map xW).length (List.drop 0 ((b.legs.map λg=>aU g now).map xW)))],.agg [iA c.id,iA c.vh,iA c.cls,iA c.til,.sl false (List.take (c.legs.map xW).length (List.drop 0 ((c.legs.map λg=>aU g now).map xW)))],.agg [iA d.id,iA d.vh,iA d.cls,iA d.til,.sl false (List.take (d.legs.map xW).length (List.drop 0 ((d.legs.map λg=>aU g now).map xW)))]]=_
 simp only[tkM];rfl
theorem zAu (l:List Rq) (now:Int) (hv:aM l):zO 159 [zD yL l,iA now] [] (zD yL (mkQ l now)) []:=by
 have h4:=hv.n4;have hb:∀r∈l,1<=r.legs.length/\r.legs.length<=1000:=λr hr=>by have:=hv.lg3 hr;omega
 match l,h4,hb with
 | [],_,_=>
  have kc:=UM;refine eM call159 λF hF=>?_
  refine zW kc ?_;refine wM 1 [] [13,11,12,1,5] rfl ?_;refine yE (st0:=⟨[(13,iA 0),(11,.s (.slice none 0 0)),(12,iA 0),(1,iA now),(5,.s (.slice none 0 0))],[]⟩) rfl ?_;refine WW ?_;exact zL
 | [a],_,hb=>exact zOy a (hb a zU).1 (hb a zU).2 now
 | [a,b],_,hb=>exact zOz a b (hb a zU).1 (hb a zU).2 (hb b zU).1 (hb b zU).2 now
 | [a,b,c],_,hb=>exact zO0 a b c (hb a zU).1 (hb a zU).2 (hb b zU).1 (hb b zU).2 (hb c zU).1 (hb c zU).2 now
 | [a,b,c,d],_,hb=>exact zO1 a b c d (hb a zU).1 (hb a zU).2 (hb b zU).1 (hb b zU).2 (hb c zU).1 (hb c zU).2 (hb d zU).1 (hb d zU).2 now
 |_::_::_::_::_::_,h,_=>simp at h
theorem zIi (g:Lg) (now:Int) (n0:0<=now) (n1:now<=1073741824):(aU g now).jn=g.jn/\(aU g now).ph=g.ph/\(JT g=true->JT (aU g now)=true):=by
 unfold aU;split
 ·split
  ·refine⟨rfl,rfl,λh=>?_⟩;unfold JT at *;rw[zYx]at *; dsimp only;omega
  ·exact⟨rfl,rfl,id⟩
 ·refine⟨rfl,rfl,λh=>?_⟩;unfold JT at *;rw[zYx]at *; dsimp only;omega
theorem zCh {now:Int} (n0:0<=now) (n1:now<=1073741824):∀(gs pre pre':List Lg),pre'.map (·.jn)=pre.map (·.jn)->fX pre gs=true->fX pre' (gs.map λg=>aU g now)=true
 | [],_,_,_,_=>rfl
 |x::post,pre,pre',hp,h=>by
  obtain⟨e1,_,e3⟩:=zIi x now n0 n1;have ha:∀(l:List Lg),(l.any λy=>y.jn==x.jn)=(l.map (·.jn)).any λn=>n==x.jn:=λl=>by rw[List.any_map];rfl
  rw[fX,zY6,zY6]at h;rw[yAa,fX,e3 h.1,e1,ha,hp,<-ha,h.2.1,zZh,zZh];exact zCh n0 n1 post (pre++[x]) (pre'++[aU x now]) (by rw[zYz,zYz,hp];simp[e1]) h.2.2
theorem zWm {l:List Rq} (hv:aM l) (now:Int) (n0:0<=now) (n1:now<=1073741824):aM (mkQ l now):=by
 refine⟨λr hr=>?_,?_,by unfold mkQ;rw[zYq];exact hv.n4⟩
 ·obtain⟨x,hx,rfl⟩:=zZ3.1 hr;have h:=hv.ok x hx;refine⟨h.i0,h.i1,h.v0,h.v1,h.c0,h.c1,h.t0,h.t1,?_⟩;have h1:=h.lg;rw[vgF,zY6]at h1;unfold vgF mkR;dsimp only;rw[zY6,zYq];exact⟨h1.1,zCh n0 n1 x.legs [] [] rfl h1.2⟩
 ·unfold mkQ;rw[List.pairwise_map];exact hv.so
end Av
end Go.Proofs.YtmamjhmoegjapaaGreat
