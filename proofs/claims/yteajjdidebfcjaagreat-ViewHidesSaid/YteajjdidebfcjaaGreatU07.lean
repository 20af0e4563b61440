/- Part 7. -/
import Derived.Test.YteajjdidebfcjaaGreatU06
namespace Go.Proofs.YteajjdidebfcjaaGreat
namespace Av
open Tryz
set_option linter.all false
set_option maxRecDepth 4000
set_option maxHeartbeats 2000000
def qF (r:Rq) (k:Nat):AV:= .agg [iA r.id,iA r.vh,iA r.cls,iA r.til,.ref k 0 (r.legs.map xW).length]
def fO (r:Rq):xO:= .arr 5 (r.legs.map xW) false
def LL (l:List Lg) (h1:1<=l.length) (hl:l.length<=1000):zN 167 [zC xW l] [] (.ref 1101 0 (l.map xW).length) [(1101,.arr 5 (l.map xW) false)]:=by
 have hll:=zA xW l;refine eM call167 λF hF=>?_
 refine yZ 0 Z (λcap hx=>?_) ?_
 ·have:l=[]:=by simpa using hx
  subst this;simp at h1
 ·(repeat' (first|refine WV ?_|refine SG (I2 (λhc=>?_) λhc=>?_)|refine SG λhc=>?_|(refine zE ?_;first|(refine yV ?_;refine uT (nw:=[1101]) (yI tok 1101 (xs:=[]) Z Z Z Z Z Z Z Z Z) Z Z Z ?_))|refine SB ?_|(first|refine xQ ?_|refine xE ?_|refine vG Z ?_|refine zX Z ?_|refine zU Z ?_|refine xK Z (λhc=>?_) λhc=>?_|refine xA ?_|refine yW ?_|refine xD ?_|refine yU ?_)|fail))
  exact zK [1101] Z Z Z Z
def jX (r:Rq) (h1:1<=r.legs.length) (hl:r.legs.length<=1000):zN 209 [yL r] [] (qF r 1101) [(1101,fO r)]:=by
 have c:=LL r.legs h1 hl;have hll:=zA xW r.legs;refine eM call209 λF hF=>?_
 refine zV c ?_;exact zK [1101] Z Z Z Z
def LM (l:List Lg) (h1:1<=l.length) (hl:l.length<=1000):zN 167 [zC xW l] [] (.ref 1102 0 (l.map xW).length) [(1102,.arr 5 (l.map xW) false)]:=by
 have hll:=zA xW l;refine eM call167 λF hF=>?_
 refine yZ 0 Z (λcap hx=>?_) ?_
 ·have:l=[]:=by simpa using hx
  subst this;simp at h1
 ·(repeat' (first|refine WV ?_|refine SG (I2 (λhc=>?_) λhc=>?_)|refine SG λhc=>?_|(refine zE ?_;first|(refine yV ?_;refine uT (nw:=[1102]) (yI tok 1102 (xs:=[]) Z Z Z Z Z Z Z Z Z) Z Z Z ?_))|refine SB ?_|(first|refine xQ ?_|refine xE ?_|refine vG Z ?_|refine zX Z ?_|refine zU Z ?_|refine xK Z (λhc=>?_) λhc=>?_|refine xA ?_|refine yW ?_|refine xD ?_|refine yU ?_)|fail))
  exact zK [1102] Z Z Z Z
def aC (r:Rq) (h1:1<=r.legs.length) (hl:r.legs.length<=1000):zN 209 [yL r] [] (qF r 1102) [(1102,fO r)]:=by
 have c:=LM r.legs h1 hl;have hll:=zA xW r.legs;refine eM call209 λF hF=>?_
 refine zV c ?_;exact zK [1102] Z Z Z Z
def LN (l:List Lg) (h1:1<=l.length) (hl:l.length<=1000):zN 167 [zC xW l] [] (.ref 1103 0 (l.map xW).length) [(1103,.arr 5 (l.map xW) false)]:=by
 have hll:=zA xW l;refine eM call167 λF hF=>?_
 refine yZ 0 Z (λcap hx=>?_) ?_
 ·have:l=[]:=by simpa using hx
  subst this;simp at h1
 ·(repeat' (first|refine WV ?_|refine SG (I2 (λhc=>?_) λhc=>?_)|refine SG λhc=>?_|(refine zE ?_;first|(refine yV ?_;refine uT (nw:=[1103]) (yI tok 1103 (xs:=[]) Z Z Z Z Z Z Z Z Z) Z Z Z ?_))|refine SB ?_|(first|refine xQ ?_|refine xE ?_|refine vG Z ?_|refine zX Z ?_|refine zU Z ?_|refine xK Z (λhc=>?_) λhc=>?_|refine xA ?_|refine yW ?_|refine xD ?_|refine yU ?_)|fail))
  exact zK [1103] Z Z Z Z
def UL (r:Rq) (h1:1<=r.legs.length) (hl:r.legs.length<=1000):zN 209 [yL r] [] (qF r 1103) [(1103,fO r)]:=by
 have c:=LN r.legs h1 hl;have hll:=zA xW r.legs;refine eM call209 λF hF=>?_
 refine zV c ?_;exact zK [1103] Z Z Z Z
def LO (l:List Lg) (h1:1<=l.length) (hl:l.length<=1000):zN 167 [zC xW l] [] (.ref 1104 0 (l.map xW).length) [(1104,.arr 5 (l.map xW) false)]:=by
 have hll:=zA xW l;refine eM call167 λF hF=>?_
 refine yZ 0 Z (λcap hx=>?_) ?_
 ·have:l=[]:=by simpa using hx
  subst this;simp at h1
 ·(repeat' (first|refine WV ?_|refine SG (I2 (λhc=>?_) λhc=>?_)|refine SG λhc=>?_|(refine zE ?_;first|(refine yV ?_;refine uT (nw:=[1104]) (yI tok 1104 (xs:=[]) Z Z Z Z Z Z Z Z Z) Z Z Z ?_))|refine SB ?_|(first|refine xQ ?_|refine xE ?_|refine vG Z ?_|refine zX Z ?_|refine zU Z ?_|refine xK Z (λhc=>?_) λhc=>?_|refine xA ?_|refine yW ?_|refine xD ?_|refine yU ?_)|fail))
  exact zK [1104] Z Z Z Z
def IS (r:Rq) (h1:1<=r.legs.length) (hl:r.legs.length<=1000):zN 209 [yL r] [] (qF r 1104) [(1104,fO r)]:=by
 have c:=LO r.legs h1 hl;have hll:=zA xW r.legs;refine eM call209 λF hF=>?_
 refine zV c ?_;exact zK [1104] Z Z Z Z
def zO7 (a:Rq) (ha:1<=a.legs.length) (ga:a.legs.length<=1000):zN 176 [zC yL [a],.fn 205 []] [] (.ref 1001 0 1) [(1001,.arr 5 [qF a 1101] ⟨false,true⟩),(1101,fO a)]:=by
 have ca:=vI a;have da:=jX a ha ga;refine eM call176 λF hF=>?_
 refine WW ?_;refine xC 5 1001 5 Z Z Z ?_;refine wM 2 [1001,1101] [5,10,1,8,9] Z ?_;refine yE (st0:=⟨[(5,.ref 1001 0 0),(10,iA 0),(1,.fn 205 []),(8,.sl false [yL a]),(9,iA 1)],[(1001,.arr 5 [] ⟨true,false⟩)]⟩) Z ?_
 (have zc1:=ca;have zc2:=da;(repeat' (first|refine ZJ ?_|apply xM|apply xZ|intro hc|(refine zE ?_;first|(refine yV ?_;refine dQ (xs:=[_]) 1002 tok Z Z Z Z Z Z Z Z Z Z Z Z ?_)|(refine yK ?_;first|refine qB tok Z Z Z Z Z Z Z (by intro y hy;cases hy;rfl) Z Z Z zS Z ?_|refine kD tok Z Z Z Z Z Z Z Z Z Z Z (by intro y hy;cases hy;rfl) zS Z ?_))|refine SB ?_|fail))<;>clear zc1 zc2)
 refine yE (st0:=⟨[(5,.ref 1001 0 1),(10,iA 1),(1,.fn 205 []),(8,.sl false [yL a]),(9,iA 1)],[(1001,.arr 5 [qF a 1101] ⟨false,true⟩),(1101,fO a)]⟩) Z ?_;refine WW ?_;exact zK [1001,1101] Z Z Z Z
def EO (a:Rq) (ha:1<=a.legs.length) (ga:a.legs.length<=1000):zN 171 [zC yL [a]] [] (.ref 1001 0 1) [(1001,.arr 5 [qF a 1101] ⟨false,true⟩),(1101,fO a)]:=by
 have c:=zO7 a ha ga;refine eM call171 λF hF=>?_
 refine zV c ?_;exact zK [1001,1101] Z Z Z Z
def zO8 (a b:Rq) (ha:1<=a.legs.length) (ga:a.legs.length<=1000) (hb:1<=b.legs.length) (gb:b.legs.length<=1000):zN 176 [zC yL [a,b],.fn 205 []] [] (.ref 1001 0 2) [(1001,.arr 5 [qF a 1101,qF b 1102] ⟨true,true⟩),(1101,fO a),(1102,fO b)]:=by
 have ca:=vI a;have da:=jX a ha ga;have cb:=vI b;have db:=aC b hb gb;refine eM call176 λF hF=>?_
 refine WW ?_;refine xC 5 1001 5 Z Z Z ?_;refine wM 3 [1001,1101,1102] [5,10,1,8,9] Z ?_;refine yE (st0:=⟨[(5,.ref 1001 0 0),(10,iA 0),(1,.fn 205 []),(8,.sl false [yL a,yL b]),(9,iA 2)],[(1001,.arr 5 [] ⟨true,false⟩)]⟩) Z ?_
 (have zc1:=ca;have zc2:=da;(repeat' (first|refine ZJ ?_|apply xM|apply xZ|intro hc|(refine zE ?_;first|(refine yV ?_;refine dQ (xs:=[_]) 1002 tok Z Z Z Z Z Z Z Z Z Z Z Z ?_)|(refine yK ?_;first|refine qB tok Z Z Z Z Z Z Z (by intro y hy;cases hy;rfl) Z Z Z zS Z ?_|refine kD tok Z Z Z Z Z Z Z Z Z Z Z (by intro y hy;cases hy;rfl) zS Z ?_))|refine SB ?_|fail))<;>clear zc1 zc2)
 refine yE (st0:=⟨[(5,.ref 1001 0 1),(10,iA 1),(1,.fn 205 []),(8,.sl false [yL a,yL b]),(9,iA 2)],[(1001,.arr 5 [qF a 1101] ⟨false,true⟩),(1101,fO a)]⟩) Z ?_
 (have zc1:=cb;have zc2:=db;(repeat' (first|refine ZJ ?_|apply xM|apply xZ|intro hc|(refine zE ?_;first|(refine yV ?_;refine dQ (xs:=[_]) 1002 tok Z Z Z Z Z Z Z Z Z Z Z Z ?_)|(refine yK ?_;first|refine qB tok Z Z Z Z Z Z Z (by intro y hy;cases hy;rfl) Z Z Z zS Z ?_|refine kD tok Z Z Z Z Z Z Z Z Z Z Z (by intro y hy;cases hy;rfl) zS Z ?_))|refine SB ?_|fail))<;>clear zc1 zc2)
 refine yE (st0:=⟨[(5,.ref 1001 0 2),(10,iA 2),(1,.fn 205 []),(8,.sl false [yL a,yL b]),(9,iA 2)],[(1001,.arr 5 [qF a 1101,qF b 1102] ⟨true,true⟩),(1101,fO a),(1102,fO b)]⟩) Z ?_;refine WW ?_;exact zK [1001,1101,1102] Z Z Z Z
def EP (a b:Rq) (ha:1<=a.legs.length) (ga:a.legs.length<=1000) (hb:1<=b.legs.length) (gb:b.legs.length<=1000):zN 171 [zC yL [a,b]] [] (.ref 1001 0 2) [(1001,.arr 5 [qF a 1101,qF b 1102] ⟨true,true⟩),(1101,fO a),(1102,fO b)]:=by
 have c:=zO8 a b ha ga hb gb;refine eM call171 λF hF=>?_
 refine zV c ?_;exact zK [1001,1101,1102] Z Z Z Z
def zO9 (a b c:Rq) (ha:1<=a.legs.length) (ga:a.legs.length<=1000) (hb:1<=b.legs.length) (gb:b.legs.length<=1000) (hc:1<=c.legs.length) (gc:c.legs.length<=1000):zN 176 [zC yL [a,b,c],.fn 205 []] [] (.ref 1001 0 3) [(1001,.arr 5 [qF a 1101,qF b 1102,qF c 1103] ⟨true,true⟩),(1101,fO a),(1102,fO b),(1103,fO c)]:=by
 have ca:=vI a;have da:=jX a ha ga;have cb:=vI b;have db:=aC b hb gb;have cc:=vI c;have dc:=UL c hc gc;refine eM call176 λF hF=>?_
 refine WW ?_;refine xC 5 1001 5 Z Z Z ?_;refine wM 4 [1001,1101,1102,1103] [5,10,1,8,9] Z ?_;refine yE (st0:=⟨[(5,.ref 1001 0 0),(10,iA 0),(1,.fn 205 []),(8,.sl false [yL a,yL b,yL c]),(9,iA 3)],[(1001,.arr 5 [] ⟨true,false⟩)]⟩) Z ?_
 (have zc1:=ca;have zc2:=da;(repeat' (first|refine ZJ ?_|apply xM|apply xZ|intro hc|(refine zE ?_;first|(refine yV ?_;refine dQ (xs:=[_]) 1002 tok Z Z Z Z Z Z Z Z Z Z Z Z ?_)|(refine yK ?_;first|refine qB tok Z Z Z Z Z Z Z (by intro y hy;cases hy;rfl) Z Z Z zS Z ?_|refine kD tok Z Z Z Z Z Z Z Z Z Z Z (by intro y hy;cases hy;rfl) zS Z ?_))|refine SB ?_|fail))<;>clear zc1 zc2)
 refine yE (st0:=⟨[(5,.ref 1001 0 1),(10,iA 1),(1,.fn 205 []),(8,.sl false [yL a,yL b,yL c]),(9,iA 3)],[(1001,.arr 5 [qF a 1101] ⟨false,true⟩),(1101,fO a)]⟩) Z ?_
 (have zc1:=cb;have zc2:=db;(repeat' (first|refine ZJ ?_|apply xM|apply xZ|intro hc|(refine zE ?_;first|(refine yV ?_;refine dQ (xs:=[_]) 1002 tok Z Z Z Z Z Z Z Z Z Z Z Z ?_)|(refine yK ?_;first|refine qB tok Z Z Z Z Z Z Z (by intro y hy;cases hy;rfl) Z Z Z zS Z ?_|refine kD tok Z Z Z Z Z Z Z Z Z Z Z (by intro y hy;cases hy;rfl) zS Z ?_))|refine SB ?_|fail))<;>clear zc1 zc2)
 refine yE (st0:=⟨[(5,.ref 1001 0 2),(10,iA 2),(1,.fn 205 []),(8,.sl false [yL a,yL b,yL c]),(9,iA 3)],[(1001,.arr 5 [qF a 1101,qF b 1102] ⟨true,true⟩),(1101,fO a),(1102,fO b)]⟩) Z ?_
 (have zc1:=cc;have zc2:=dc;(repeat' (first|refine ZJ ?_|apply xM|apply xZ|intro hc|(refine zE ?_;first|(refine yV ?_;refine dQ (xs:=[_]) 1002 tok Z Z Z Z Z Z Z Z Z Z Z Z ?_)|(refine yK ?_;first|refine qB tok Z Z Z Z Z Z Z (by intro y hy;cases hy;rfl) Z Z Z zS Z ?_|refine kD tok Z Z Z Z Z Z Z Z Z Z Z (by intro y hy;cases hy;rfl) zS Z ?_))|refine SB ?_|fail))<;>clear zc1 zc2)
 refine yE (st0:=⟨[(5,.ref 1001 0 3),(10,iA 3),(1,.fn 205 []),(8,.sl false [yL a,yL b,yL c]),(9,iA 3)],[(1001,.arr 5 [qF a 1101,qF b 1102,qF c 1103] ⟨true,true⟩),(1101,fO a),(1102,fO b),(1103,fO c)]⟩) Z ?_;refine WW ?_;exact zK [1001,1101,1102,1103] Z Z Z Z
def EQ (a b c:Rq) (ha:1<=a.legs.length) (ga:a.legs.length<=1000) (hb:1<=b.legs.length) (gb:b.legs.length<=1000) (hc:1<=c.legs.length) (gc:c.legs.length<=1000):zN 171 [zC yL [a,b,c]] [] (.ref 1001 0 3) [(1001,.arr 5 [qF a 1101,qF b 1102,qF c 1103] ⟨true,true⟩),(1101,fO a),(1102,fO b),(1103,fO c)]:=by
 have c:=zO9 a b c ha ga hb gb hc gc;refine eM call171 λF hF=>?_
 refine zV c ?_;exact zK [1001,1101,1102,1103] Z Z Z Z
theorem zPa (a b c d:Rq) (ha:1<=a.legs.length) (ga:a.legs.length<=1000) (hb:1<=b.legs.length) (gb:b.legs.length<=1000) (hc:1<=c.legs.length) (gc:c.legs.length<=1000) (hd:1<=d.legs.length) (gd:d.legs.length<=1000):zN 176 [zC yL [a,b,c,d],.fn 205 []] [] (.ref 1001 0 4) [(1001,.arr 5 [qF a 1101,qF b 1102,qF c 1103,qF d 1104] ⟨true,true⟩),(1101,fO a),(1102,fO b),(1103,fO c),(1104,fO d)]:=by
 have ca:=vI a;have da:=jX a ha ga;have cb:=vI b;have db:=aC b hb gb;have cc:=vI c;have dc:=UL c hc gc;have cd:=vI d;have dd:=IS d hd gd;refine eM call176 λF hF=>?_
 refine WW ?_;refine xC 5 1001 5 Z Z Z ?_;refine wM 5 [1001,1101,1102,1103,1104] [5,10,1,8,9] Z ?_;refine yE (st0:=⟨[(5,.ref 1001 0 0),(10,iA 0),(1,.fn 205 []),(8,.sl false [yL a,yL b,yL c,yL d]),(9,iA 4)],[(1001,.arr 5 [] ⟨true,false⟩)]⟩) Z ?_
 (have zc1:=ca;have zc2:=da;(repeat' (first|refine ZJ ?_|apply xM|apply xZ|intro hc|(refine zE ?_;first|(refine yV ?_;refine dQ (xs:=[_]) 1002 tok Z Z Z Z Z Z Z Z Z Z Z Z ?_)|(refine yK ?_;first|refine qB tok Z Z Z Z Z Z Z (by intro y hy;cases hy;rfl) Z Z Z zS Z ?_|refine kD tok Z Z Z Z Z Z Z Z Z Z Z (by intro y hy;cases hy;rfl) zS Z ?_))|refine SB ?_|fail))<;>clear zc1 zc2)
 refine yE (st0:=⟨[(5,.ref 1001 0 1),(10,iA 1),(1,.fn 205 []),(8,.sl false [yL a,yL b,yL c,yL d]),(9,iA 4)],[(1001,.arr 5 [qF a 1101] ⟨false,true⟩),(1101,fO a)]⟩) Z ?_
 (have zc1:=cb;have zc2:=db;(repeat' (first|refine ZJ ?_|apply xM|apply xZ|intro hc|(refine zE ?_;first|(refine yV ?_;refine dQ (xs:=[_]) 1002 tok Z Z Z Z Z Z Z Z Z Z Z Z ?_)|(refine yK ?_;first|refine qB tok Z Z Z Z Z Z Z (by intro y hy;cases hy;rfl) Z Z Z zS Z ?_|refine kD tok Z Z Z Z Z Z Z Z Z Z Z (by intro y hy;cases hy;rfl) zS Z ?_))|refine SB ?_|fail))<;>clear zc1 zc2)
 refine yE (st0:=⟨[(5,.ref 1001 0 2),(10,iA 2),(1,.fn 205 []),(8,.sl false [yL a,yL b,yL c,yL d]),(9,iA 4)],[(1001,.arr 5 [qF a 1101,qF b 1102] ⟨true,true⟩),(1101,fO a),(1102,fO b)]⟩) Z ?_
 (have zc1:=cc;have zc2:=dc;(repeat' (first|refine ZJ ?_|apply xM|apply xZ|intro hc|(refine zE ?_;first|(refine yV ?_;refine dQ (xs:=[_]) 1002 tok Z Z Z Z Z Z Z Z Z Z Z Z ?_)|(refine yK ?_;first|refine qB tok Z Z Z Z Z Z Z (by intro y hy;cases hy;rfl) Z Z Z zS Z ?_|refine kD tok Z Z Z Z Z Z Z Z Z Z Z (by intro y hy;cases hy;rfl) zS Z ?_))|refine SB ?_|fail))<;>clear zc1 zc2)
 refine yE (st0:=⟨[(5,.ref 1001 0 3),(10,iA 3),(1,.fn 205 []),(8,.sl false [yL a,yL b,yL c,yL d]),(9,iA 4)],[(1001,.arr 5 [qF a 1101,qF b 1102,qF c 1103] ⟨true,true⟩),(1101,fO a),(1102,fO b),(1103,fO c)]⟩) Z ?_
 (have zc1:=cd;have zc2:=dd;(repeat' (first|refine ZJ ?_|apply xM|apply xZ|intro hc|(refine zE ?_;first|(refine yV ?_;refine dQ (xs:=[_]) 1002 tok Z Z Z Z Z Z Z Z Z Z Z Z ?_)|(refine yK ?_;first|refine qB tok Z Z Z Z Z Z Z (by intro y hy;cases hy;rfl) Z Z Z zS Z ?_|refine kD tok Z Z Z Z Z Z Z Z Z Z Z (by intro y hy;cases hy;rfl) zS Z ?_))|refine SB ?_|fail))<;>clear zc1 zc2)
 refine yE (st0:=⟨[(5,.ref 1001 0 4),(10,iA 4),(1,.fn 205 []),(8,.sl false [yL a,yL b,yL c,yL d]),(9,iA 4)],[(1001,.arr 5 [qF a 1101,qF b 1102,qF c 1103,qF d 1104] ⟨true,true⟩),(1101,fO a),(1102,fO b),(1103,fO c),(1104,fO d)]⟩) Z ?_;refine WW ?_;exact zK [1001,1101,1102,1103,1104] Z Z Z Z
def ER (a b c d:Rq) (ha:1<=a.legs.length) (ga:a.legs.length<=1000) (hb:1<=b.legs.length) (gb:b.legs.length<=1000) (hc:1<=c.legs.length) (gc:c.legs.length<=1000) (hd:1<=d.legs.length) (gd:d.legs.length<=1000):zN 171 [zC yL [a,b,c,d]] [] (.ref 1001 0 4) [(1001,.arr 5 [qF a 1101,qF b 1102,qF c 1103,qF d 1104] ⟨true,true⟩),(1101,fO a),(1102,fO b),(1103,fO c),(1104,fO d)]:=by
 have c:=zPa a b c d ha ga hb gb hc gc hd gd;refine eM call171 λF hF=>?_
 refine zV c ?_;exact zK [1001,1101,1102,1103,1104] Z Z Z Z
theorem NB (K:List Nat) (h:yG):∀a b:List AV,uY K h (a++b)=uY K h a++uY K h b
 | [],b=>rfl
 |v::a,b=>by rw[yC5,uY,uY,NB K h a b];rfl
theorem IT (K:List Nat) (h:yG):∀l:List Rq,uY K h (l.map yL)=l.map yL
 | []=>rfl
 |r::l=>by rw[yBs,uY,IT K h l];rfl
theorem RL (K:List Nat) (h:yG):∀a b:List AV,wQ K h (a++b)=wQ K h a++wQ K h b
 | [],b=>rfl
 |v::a,b=>by rw[yC5,wQ,wQ,RL K h a b];rfl
theorem NC (K:List Nat) (h:yG):∀l:List Rq,wQ K h (l.map yL)=l.map yL
 | []=>rfl
 |r::l=>by rw[yBs,wQ,NC K h l];rfl
theorem VA:∀a b:List AV,wG (a++b)=(wG a&&wG b)
 | [],b=>rfl
 |v::a,b=>by rw[yC5,wG,wG,VA a b,Bool.and_assoc]
theorem RM:∀l:List Rq,wG (l.map yL)=true
 | []=>rfl
 |r::l=>by rw[yBs,wG,RM l];rfl
def ZH (pre:List Rq) (x:Rq) (post:List Rq) (k:Nat):List AV:=pre.map yL++qF x k::post.map yL
def YY (pre:List Rq) (x:Rq) (post:List Rq) (k:Nat):(ZH pre x post k).length=pre.length+1+post.length:=by simp[ZH];omega
def UM (h:yG) (pre:List Rq) (x:Rq) (post:List Rq) (b:Bool):qW [1001,1101] h (.arr 5 (ZH pre x post 1101) ⟨b,true⟩)= .arr 5 (ZH pre x post 1101) ⟨b,true⟩:=by
 have e:uY [1001,1101] h (ZH pre x post 1101)=ZH pre x post 1101:=by
  unfold ZH;rw[NB,IT,uY,IT];rfl
 have e2:wG (ZH pre x post 1101)=false:=by
  unfold ZH;rw[VA,RM,wG];rfl
 show xO.arr 5 (uY [1001,1101] h (ZH pre x post 1101)) ⟨b,!wG (uY [1001,1101] h (ZH pre x post 1101))⟩=_
 rw[e,e2];rfl
def zPb (pre:List Rq) (x:Rq) (post:List Rq) (k:Nat) (y:Rq):ZH pre x post k++[yL y]=ZH pre x (post++[y]) k:=by
 unfold ZH;rw[yAn,yA6];rfl
theorem zPc (pre:List Rq) (x:Rq) (post:List Rq) (l:List Rq) (hL:l=pre++x::post) (hn:l.length<=1000) (hb:∀r∈l,1<=r.legs.length/\r.legs.length<=1000):
  zN 176 [zC yL l,.fn 205 []] [] (.ref 1001 0 (ZH pre x post 1101).length) [(1001,.arr 5 (ZH pre x post 1101) ⟨true,true⟩),(1101,fO x)]:=by
 have hl:=zA yL l;have hlen:l.length=pre.length+1+post.length:=by rw[hL];simp;omega
 refine eM call176 λF hF=>?_
 refine WW ?_;refine xC 5 1001 5 rfl rfl rfl ?_;refine vB (λn st=>∃i,n+i=l.length/\st=if i<=pre.length then(⟨[(5,.ref 1001 0 ((l.take i).map yL).length),(10,iA i),(1,.fn 205 []),(8,zC yL l),(9,iA (l.map yL).length)],[(1001,.arr 5 ((l.take i).map yL) true)]⟩:St)else⟨[(5,.ref 1001 0 (ZH pre x (post.take (i-pre.length-1)) 1101).length),(10,iA i),(1,.fn 205 []),(8,zC yL l),(9,iA (l.map yL).length)],[(1001,.arr 5 (ZH pre x (post.take (i-pre.length-1)) 1101) ⟨true,true⟩),(1101,fO x)]⟩) l.length [1001,1101] [5,10,1,8,9] rfl ⟨0,zB,by rw[yAd (yAt _)];rfl⟩ ?_;rintro n st ⟨i,hi,rfl⟩;by_cases hip:i<pre.length
 ·rw[yAd zB];have hy:=zM yL l i zB;have hm:l.getD i default∈l:=by simp[List.getD,show i<l.length by omega]
  have hs:=hb _ hm
  have e:(l.take (i+1)).map yL=(l.take i).map yL++[yL (l.getD i default)]:=by
   rw[yCt,yAn,yAr zB];simp[List.getD,show i<l.length by omega]
  have hpl:((l.take i).map yL).length=i:=by rw[yAe,yAw];omega
  have hil:i<l.length:=by omega
  clear hm;generalize l.getD i default=r at *;have c1:=vI r;have c2:=UO r zB
  (have zc1:=c1;have zc2:=c2;(repeat' (first|refine uP ?_|apply xM|apply xZ|intro hc|(refine zE ?_;first|(refine yK ?_;refine uT (nw:=[]) (uE true false tok Z Z Z Z Z Z (λh=>by cases h) Z (by intro y hy;cases hy;rfl) Z Z Z Z (by simp only[YY,yAe,yAw,yAp,yBk,yA7];omega) (λh=>by cases h)) Z Z Z ?_)|refine SM ?_)|fail))<;>clear zc1 zc2)
  exact⟨n-1,zB,i+1,zB,by rw[yAd zB,e];rfl⟩
 by_cases hie:i=pre.length
 ·rw[yAd zB];subst hie;have hil:pre.length<l.length:=by omega
  have ht:(l.take pre.length).map yL=pre.map yL:=by rw[hL];simp
  have hy:(l.map yL)[pre.length]? =some (yL x):=by rw[hL];simp
  have hs:=hb x (by rw[hL];simp);rw[ht];clear hL;have c1:=vI x;have c2:=jX x zB zB;have hpt:pre.length<=1000:=by omega
  (have zc1:=c1;have zc2:=c2;(repeat' (first|refine ZJ ?_|apply xM|apply xZ|intro hc|(refine zE ?_;first|(refine yV ?_;refine dQ (xs:=[_]) 1002 tok Z Z Z Z Z Z Z Z Z Z Z Z ?_)|(refine yK ?_;refine uT (nw:=[]) (uE true true tok Z Z Z Z Z Z (λh=>by cases h) Z (by intro y hy;cases hy;rfl) Z Z Z Z (by simp only[YY,yAe,yAw,yAp,yBk,yA7];omega) (λh=>by cases h)) Z Z Z ?_))|refine SB ?_|fail))<;>clear zc1 zc2)
  refine⟨n-1,zB,pre.length+1,zB,?_⟩;rw[yAc zB,show pre.length+1-pre.length-1=0 by omega];refine yBa (St.mk _) ?_
  show [(1001,qW [1001,1101] _ (.arr 5 (ZH pre x [] 1101) ⟨true,true⟩)),(1101,fO x)]=_
  rw[UM];rfl
 rw[yAc zB];by_cases hil:i<l.length
 ·have hy:=zM yL l i hil;have hm:l.getD i default∈l:=by simp[List.getD,hil]
  have hs:=hb _ hm
  have hg:post[i-pre.length-1]? =some (l.getD i default):=by
   have h1:l[i]? =some (l.getD i default):=by simp[List.getD,hil]
   rw[hL,yA4 zB]at h1;rw[show i-pre.length=(i-pre.length-1)+1 by omega,List.getElem?_cons_succ]at h1;rw[<-hL]at h1;exact h1
  have e:ZH pre x (post.take (i+1-pre.length-1)) 1101=ZH pre x (post.take (i-pre.length-1)) 1101++[yL (l.getD i default)]:=by
   rw[zPb,show i+1-pre.length-1=(i-pre.length-1)+1 by omega,yCt,hg];rfl
  have hcl:=YY pre x (post.take (i-pre.length-1)) 1101;have hpt:(post.take (i-pre.length-1)).length<=1000:=by rw[yAw];omega
  have hf:=λh=>UM h pre x (post.take (i+1-pre.length-1)) true
  rw[e]at hf;clear hm hg hL;generalize l.getD i default=r at *;generalize ZH pre x (post.take (i-pre.length-1)) 1101=cs at *;have c1:=vI r;have c2:=UO r zB
  (have zc1:=c1;have zc2:=c2;(repeat' (first|refine uP ?_|apply xM|apply xZ|intro hc|(refine zE ?_;first|(refine yK ?_;refine uT (nw:=[]) (uE true true tok Z Z Z Z Z Z (λh=>by cases h) Z (by intro y hy;cases hy;rfl) Z Z Z Z (by simp only[YY,yAe,yAw,yAp,yBk,yA7];omega) (λh=>by cases h)) Z Z Z ?_)|refine SM ?_)|fail))<;>clear zc1 zc2)
  refine⟨n-1,zB,i+1,zB,?_⟩;rw[yAc zB,e];refine yBa (St.mk _) ?_
  show [(1001,qW [1001,1101] _ (.arr 5 (cs++[yL r]) ⟨true,true⟩)),(1101,fO x)]=_
  rw[hf]
 ·have hf:=λh=>UM h pre x post true
  rw[show i-pre.length-1=post.length by omega,yAh];generalize ZH pre x post 1101=cs at *;refine WW ?_;refine zK [1001,1101] Z Z Z ?_
  show [(1001,qW [1001,1101] _ (.arr 5 cs ⟨true,true⟩)),(1101,fO x)]=_
  rw[hf]
def ES (pre:List Rq) (x:Rq) (post:List Rq) (l:List Rq) (hL:l=pre++x::post) (hn:l.length<=1000) (hb:∀r∈l,1<=r.legs.length/\r.legs.length<=1000):
  zN 171 [zC yL l] [] (.ref 1001 0 (ZH pre x post 1101).length) [(1001,.arr 5 (ZH pre x post 1101) ⟨true,true⟩),(1101,fO x)]:=by
 have c:=zPc pre x post l hL hn hb;have hf:=λh=>UM h pre x post true
 generalize ZH pre x post 1101=cs at *;refine eM call171 λF hF=>?_
 refine zV c ?_;refine zK [1001,1101] Z Z Z ?_
 show [(1001,qW [1001,1101] _ (.arr 5 cs ⟨true,true⟩)),(1101,fO x)]=_
 rw[hf]
def wnA (p:Int×Int):AV:= .agg [iA p.1,iA p.2]
def nwL (now:Int) (g:Lg) (p:Int×Int):Lg:=⟨g.jn,g.ph,now+p.1,now+p.2,g.sc⟩
def okW (now:Int) (g:Lg) (p:Int×Int):Bool:=mwB g.jn g.ph p.1 p.2 now
def ET (gs:List Lg) (w:List (Int×Int)) (now:Int):Bool:=(gs.zipWith (okW now) w).all id
def aD (l:List Rq) (id:Int) (w:List (Int×Int)) (now:Int):Int:=
 if gF l id=true then(if w.length=(fdQ l id).legs.length/\ET (fdQ l id).legs w now=true then 0 else 8)else 12
def LP (l:List Rq) (id:Int) (w:List (Int×Int)) (now:Int):List Rq:=l.map λr=>if r.id=id then⟨r.id,r.vh,r.cls,r.til,r.legs.zipWith (nwL now) w⟩else r
def AQ (gs:List Lg) (w:List (Int×Int)) (now:Int) (i:Nat):List Lg:=(gs.take i).zipWith (nwL now) (w.take i)++gs.drop i
def zC2 {gs:List Lg} {w:List (Int×Int)} {now:Int} {i:Nat} (h:w.length=gs.length) (hi:i<=gs.length):(AQ gs w now i).length=gs.length:=by
 unfold AQ;rw[yAf,yEm,yAw,yAw,yA7];omega
def zUh {gs:List Lg} {w:List (Int×Int)} {now:Int} {i:Nat} (h:w.length=gs.length) (hi:i<gs.length):((AQ gs w now i).map xW)[i]? =some (xW (gs.getD i default)):=by
 unfold AQ;have e:((gs.take i).zipWith (nwL now) (w.take i)).length=i:=by rw[yEm,yAw,yAw];omega
 rw[yAi,yA4 zB,e,yCm,yB3];simp[List.getD,hi]
def zPd {gs:List Lg} {w:List (Int×Int)} {now:Int} {i:Nat} (h:w.length=gs.length) (hi:i<gs.length):((AQ gs w now i).map xW).set i (xW (nwL now (gs.getD i default) (w.getD i default)))=(AQ gs w now (i+1)).map xW:=by
 unfold AQ;have e:((gs.take i).zipWith (nwL now) (w.take i)).length=i:=by rw[yEm,yAw,yAw];omega
 rw[<-yCk,yDk _ _ zB,e,yCm,yCw hi,yEu];rw[yCt,yCt,List.zipWith_append (by rw[yAw,yAw];omega)];rw[yAr hi,yAr zB];simp[List.getD,hi,show i<w.length by omega]
def zXf (gs:List Lg) (w:List (Int×Int)) (now:Int):AQ gs w now 0=gs:=by simp[AQ]
def zPe {gs:List Lg} {w:List (Int×Int)} {now:Int} (h:w.length=gs.length):AQ gs w now gs.length=gs.zipWith (nwL now) w:=by
 unfold AQ;rw[yAh,<-h,yAh,h,yDp,yA8]
def zPf {gs:List Lg} {w:List (Int×Int)} {now:Int} (h:w.length=gs.length) (ha:∀i,i<gs.length->okW now (gs.getD i default) (w.getD i default)=true):ET gs w now=true:=by
 unfold ET;rw[yAu];intro b hb;obtain⟨i,hi,rfl⟩:=yEa.1 hb;rw[yEm]at hi;have:=ha i zB;rw[List.getElem_zipWith];simpa [List.getD,show i<gs.length by omega,show i<w.length by omega]using this
def zUi {gs:List Lg} {w:List (Int×Int)} {now:Int} {i:Nat} (h:w.length=gs.length) (hi:i<gs.length) (ha:okW now (gs.getD i default) (w.getD i default)=false):ET gs w now=false:=by
 unfold ET;rw[yDd];refine⟨okW now (gs.getD i default) (w.getD i default),?_,by rw[ha];decide⟩
 have:(gs.zipWith (okW now) w)[i]? =some (okW now (gs.getD i default) (w.getD i default)):=by
  rw[List.getElem?_zipWith,yAr hi,yAr zB];simp[List.getD,hi,show i<w.length by omega]
 exact yBp this
def zC3 {l pre post:List Rq} {x:Rq} {id:Int} {w:List (Int×Int)} {now:Int} (hL:l=pre++x::post) (hv:ZL l) (hx:x.id=id):LP l id w now=pre++⟨x.id,x.vh,x.cls,x.til,x.legs.zipWith (nwL now) w⟩::post:=by
 have hs:=hv.so;rw[hL,yEh,yEt]at hs;obtain⟨_,⟨h2,_⟩,h3⟩:=hs;unfold LP;rw[hL,yAn,yBs,yAd hx]
 congr 1
 ·conv=>rhs;rw[<-List.map_id pre]
  refine yDt λy hy=>?_
  have:=h3 y hy x zS;rw[yAc zB];rfl
 ·congr 1
  conv=>rhs;rw[<-List.map_id post]
  refine yDt λy hy=>?_
  have:=h2 y hy;rw[yAc zB];rfl
def zPg {h:yG} {pre post:List Rq} {x:Rq} {b:Bool} {gs:List Lg} (h1:h 1001=some (.arr 5 (ZH pre x post 1101) ⟨b,true⟩)) (h2:h 1101=some (.arr 5 (gs.map xW) false)) (hl:gs.length=x.legs.length):
  wP [] h (.ref 1001 0 (ZH pre x post 1101).length)=zC yL (pre++⟨x.id,x.vh,x.cls,x.til,gs⟩::post):=by
 have e:wQ [] h (ZH pre x post 1101)=(pre++⟨x.id,x.vh,x.cls,x.til,gs⟩::post).map yL:=by
  unfold ZH;rw[RL,NC,wQ,NC,yAn,yBs]
  congr 1
  congr 1
  show AV.agg [iA x.id,iA x.vh,iA x.cls,iA x.til,qC [] h (.ref 1101 0 (x.legs.map xW).length)]=_
  have e2:qC [] h (.ref 1101 0 (x.legs.map xW).length)=zC xW gs:=by
   simp only[qC,h2]
   show AV.sl false (((gs.map xW).drop 0).take (x.legs.map xW).length)=_
   rw[yBf,yAe,yAo (by rw[yAe,hl];exact yAg _)];rfl
  rw[e2];rfl
 have hl2:(ZH pre x post 1101).length=((pre++⟨x.id,x.vh,x.cls,x.til,gs⟩::post).map yL).length:=by rw[YY];simp;omega
 rw[hl2];simp only[wP,h1]
 show(bif wG (wQ [] h (ZH pre x post 1101))then AV.sl false (((wQ [] h (ZH pre x post 1101)).drop 0).take _)else .bot)=_
 rw[e,RM,yBf,yAh];rfl
def KL {l:List Rq} {id:Int} (h:gF l id=true):∃pre x post,l=pre++x::post/\x.id=id/\(∀y∈pre,y.id≠id)/\fdQ l id=x/\RB (λr:Rq=>r.id==id) l=(pre.length:Int):=by
 induction l with
 |nil=>cases h
 | cons a l ih=>
  by_cases ha:a.id=id
  ·refine⟨[],a,l,rfl,ha,by simp,(zC7 (pre:=[]) Z zS ha).1,PO (pre:=[]) Z zS (by simpa using ha)⟩
  ·have h2:gF l id=true:=by simpa [gF,ha]using h
   obtain⟨pre,x,post,e1,e2,e3,_,_⟩:=ih h2
   have hp:∀y∈a::pre,y.id≠id:=λy hy=>by
    rcases yBt.1 hy with rfl|hy
    ·exact ha
    ·exact e3 y hy
   have e:a::l=(a::pre)++x::post:=by rw[e1];rfl
   exact⟨a::pre,x,post,e,e2,hp,(zC7 e hp e2).1,PO e (λy hy=>by simpa using hp y hy) (by simpa using e2)⟩
theorem zIn (l:List Rq) (id:Int) (w:List (Int×Int)) (now:Int) (hv:ZL l) (hw:w.length<=1000) (n0:0<=now) (n1:now<=1073741824):
  zN 223 [zC yL l,iA id,zC wnA w,iA now] [] (.tup [zC yL (if aD l id w now=0 then LP l id w now else []),iA (aD l id w now)]) []:=by
 have h4:=hv.n4;have hlw:=zA wnA w;have c1:=UR l 4 hv zB;have c2:=zDd now;have c3:=ND l id zB;rw[yAj ⟨n0,n1⟩]at c2
 cases hh:gF l id with
 |false=>
  have hx:=ZR (p:=λx:Rq=>x.id==id) (l:=l) (by simpa [gF]using hh);rw[hx]at c3;have e:aD l id w now=12:=yAc (by rw[hh];decide);rw[e,yAc xL];refine eM call223 λF hF=>?_
  refine yQ (gG c1 c2 c3) ?_;exact zJ
 |true=>
 obtain⟨pre,x,post,hL,hx,_,hf,hix⟩:=KL hh;rw[hix]at c3;have hup:=zC3 (w:=w) (now:=now) hL hv hx
 have e0:aD l id w now=if w.length=x.legs.length/\ET x.legs w now=true then 0 else 8:=by unfold aD;rw[yAd hh,hf]
 have hlen:l.length=pre.length+1+post.length:=by rw[hL];simp;omega
 have hxl:=hv.lg3 (r:=x) (by rw[hL];simp);have c4:=ES pre x post l hL zB (λr hr=>by have:=hv.lg3 hr;omega);have hcl:=YY pre x post 1101;have hfr:=λh=>UM h pre x post true
 have hat:(ZH pre x post 1101)[((pre.length:Int)).toNat]? =some (qF x 1101):=by unfold ZH;simp
 have hfin:=λh gs=>zPg (h:=h) (pre:=pre) (post:=post) (x:=x) (b:=true) (gs:=gs)
 have hlx:=zA xW x.legs;generalize ZH pre x post 1101=cs at *;clear hL hv hix hf hh hx;by_cases hwl:w.length=x.legs.length
 case neg=>
  rw[yAc (λh=>hwl h.1)]at e0;rw[e0,yAc xL];refine eM call223 λF hF=>?_
  refine yQ (ZB c1 c2 c3 c4) ?_;exact zJ
 refine eM call223 λF hF=>?_
 refine yQ (ZB c1 c2 c3 c4) ?_;refine vB (λn st=>∃i,n+i=x.legs.length/\(∀j,j<i->okW now (x.legs.getD j default) (w.getD j default)=true)/\st=(⟨[(44,iA i),(3,iA now),(11,.ref 1001 0 cs.length),(12,.ref 1101 0 (x.legs.map xW).length),(42,zC wnA w),(43,iA (w.map wnA).length)],[(1001,.arr 5 cs ⟨true,true⟩),(1101,.arr 5 ((AQ x.legs w now i).map xW) false)]⟩:St)) x.legs.length [1001,1101] [44,3,11,12,42,43] Z ⟨0,zB,λj hj=>absurd hj (yC3 _),?_⟩ ?_
 ·rw[zXf];refine yBa (St.mk _) ?_
  show [(1001,qW [1001,1101] _ (.arr 5 cs ⟨true,true⟩)),(1101,fO x)]=_
  rw[hfr];rfl
 rintro n st ⟨i,hi,hok,rfl⟩;by_cases hil:i<x.legs.length
 ·have hul:=zC2 (i:=i) (now:=now) hwl zB;have hlu:=zA xW (AQ x.legs w now i);have hy2:=zM wnA w i zB;have hy:=zUh (now:=now) hwl hil;have hst:=zPd (now:=now) hwl hil;have c5:=zDb (x.legs.getD i default).jn (x.legs.getD i default).ph (w.getD i default).1 (w.getD i default).2 now
  cases hb:okW now (x.legs.getD i default) (w.getD i default)with
  |false=>
   have hno:=zUi hwl hil hb;rw[yAc (λh=>by rw[hno]at h;cases h.2)]at e0;rw[e0,yAc xL];unfold okW at hb;unfold mwF at c5;rw[hb,yAc yAx,yAc yAx]at c5;clear hok hfin hup hno hst;generalize x.legs.getD i default=g at *;generalize w.getD i default=q at *;generalize (AQ x.legs w now i).map xW=ys at *;refine zV c5 ?_;exact zJ
  | true=>
   have hok2:∀j,j<i+1->okW now (x.legs.getD j default) (w.getD j default)=true:=λj hj=>by
    by_cases hji:j=i
    ·rw[hji];exact hb
    ·exact hok j zB
   unfold okW at hb;unfold mwF at c5;rw[hb,yAd Z,yAd Z]at c5;have hset:∀y:AV,(((AQ x.legs w now i).map xW).set i y)[i]? =some y:=λy=>yB5 zB
   clear hok hfin hup e0 hb;generalize x.legs.getD i default=g at *;generalize w.getD i default=q at *;generalize (AQ x.legs w now i).map xW=ys at*
   (have zc1:=c5;(repeat' (first|refine WTR ?_|apply xM|apply xZ|intro hc|(refine zE ?_;first|(refine cU ?_;refine RO tok Z Z Z (hset _) Z Z Z Z Z Z Z Z ?_)|refine SM ?_)|refine SB ?_|fail))<;>clear zc1)
   refine⟨n-1,zB,i+1,zB,hok2,?_⟩;refine yBa (St.mk _) ?_
   show [(1001,qW [1001,1101] _ (.arr 5 cs ⟨true,true⟩)),(1101,.arr 5 ((ys.set i _).set i (xW (nwL now g q))) false)]=_
   rw[hfr,yFc,hst]
 ·obtain rfl:i=x.legs.length:=by omega
  have hul:=zC2 (i:=x.legs.length) (now:=now) hwl (yAg _);have hyes:=zPf hwl hok;rw[yAd ⟨hwl,hyes⟩]at e0;rw[e0,yAd Z,hup];rw[zPe hwl]at hul⊢;generalize x.legs.zipWith (nwL now) w=gs at *;refine WW ?_;refine zH [] Z Z ?_ Z
  show AV.tup [VH (wP [] _ (.ref 1001 0 cs.length)),iA 0]=_
  rw[hfin _ gs Z Z hul];rfl
def ZI:List Int->Nat->Int->Int×Int×Int
 | [],_,_=>(0,0,6)
 |x::r,i,n=>if i=5 then(0,0,6)else if 128<=x then ZI r (i+1) (n+x.tmod 128*128 ^ i)else if 4294967295<n+x.tmod 128*128 ^ i∨(0<i/\x=0)then(0,0,6)else(n+x.tmod 128*128 ^ i,i+1,0)
def cF (b:List Int):Int×Int×Int:=ZI b 0 0
def szF (n:Int):Int:=if n<0∨4294967295<n then 0 else if n<128 then 1 else if n<16384 then 2 else if n<2097152 then 3 else if n<268435456 then 4 else 5
def lgF (m:Int):Int:=if m<128 then 0 else if m<16384 then 1 else if m<2097152 then 2 else if m<268435456 then 3 else 4
def zIo {n:Int} (h0:0<=n) (h1:n<=4294967295):szF n=1+lgF n:=by
 unfold szF lgF;rw[yAc zB]
 repeat' split
 all_goals omega
def zPh {m:Int} (h0:128<=m) (h1:m<=4294967295):lgF m=1+lgF (m/128):=by
 unfold lgF;rw[yAc zB]
 repeat' split
 all_goals omega
def zUj {m:Int} (h:m<128):lgF m=0:=yAd h
def EU (n:Int):zN 181 [iA n] [] (iA (szF n)) []:=by
 by_cases h:n<0∨4294967295<n
 ·have e:szF n=0:=yAd h;rw[e];by_cases h1:n<0
  ·(refine eM call181 λF hF=>?_)
   refine WW ?_;exact zJ
  ·have h2:=h.resolve_left h1;refine eM call181 λF hF=>?_
   refine WW ?_;exact zJ
 have h1:0<=n:=by omega
 have h2:n<=4294967295:=by omega
 rw[zIo h1 h2];generalize hs:1+lgF n=s;refine eM call181 λF hF=>?_
 refine WW ?_;refine jZ (5) [] [] [] [0,3] Z (λzn T U zs=>∃(m:Int) (k:Int),(0<=m/\m<=4294967295/\k=6-zn/\1<=k/\k<=5/\(k=2->m<=33554431)/\(k=3->m<=262143)/\(k=4->m<=2047)/\(k=5->m<=15)/\s=k+lgF m)/\zs=⟨(0,iA m)::(3,iA k)::T,U⟩) ?_;(conv=>whnf);refine⟨?_,?_⟩
 ·exact⟨n,1,⟨h1,h2,zB,zB,zB,zB,zB,zB,zB,hs.symm⟩,rfl⟩
 ·rintro zn st ⟨m,k,⟨q0,q1,q2,q3,q4,q5,q6,q7,q8,q9⟩,rfl⟩;by_cases hm:128<=m
  ·have hd:=zPh hm q1;have hmd:m.tdiv 128=m/128:=yB6 q0;have hir:ZM .i64 (m.tdiv 128):=⟨zB,zB⟩;refine WW ?_;refine⟨zn-1,zB,m.tdiv 128,k+1,⟨zB,zB,zB,zB,zB,zB,zB,zB,zB,by rw[hmd];omega⟩,rfl⟩
  ·rw[zUj zB]at q9;obtain rfl:s=k:=by omega
   refine WW ?_;exact zJ
def zPi {i:Nat} (h:i<=4):((128:Int) ^ i=1/\i=0)∨((128:Int) ^ i=128/\i=1)∨((128:Int) ^ i=16384/\i=2)∨((128:Int) ^ i=2097152/\i=3)∨((128:Int) ^ i=268435456/\i=4):=by
 obtain rfl|rfl|rfl|rfl|rfl:i=0∨i=1∨i=2∨i=3∨i=4:=by omega
 all_goals simp
def zXg {i:Nat} {n x:Int} (h:i<=4) (h0:0<=n) (h1:n<128 ^ i) (x0:0<=x) (x1:x<128):(szF (n+x*128 ^ i)=(i:Int)+1)↔¬(4294967295<n+x*128 ^ i∨(0<i/\x=0)):=by
 rcases zPi h with⟨e,rfl⟩|⟨e,rfl⟩|⟨e,rfl⟩|⟨e,rfl⟩|⟨e,rfl⟩
 all_goals rw[e]at h1⊢
 all_goals unfold szF
 all_goals repeat' split
 all_goals omega
def zIp {x P:Int} (x0:0<=x) (x1:x<128) (P0:1<=P) (P1:P<=268435456):0<=x*P/\x*P<=127*P:=by
 refine⟨yGd x0 zB,Int.mul_le_mul_of_nonneg_right zB zB⟩
theorem zXh (b:List Int) (hb:BY b) (hn:b.length<=100000):zN 141 [zC yA b] [] (.tup [iA (cF b).1,iA (cF b).2.1,iA (cF b).2.2]) []:=by
 have hl:=zA yA b;refine eM call141 λF hF=>?_
 refine WW ?_;refine jZ (6) [] [] [0] [5,6,7,0] Z (λzn T U zs=>∃(i:Nat) (n:Int),(zn+i=6/\i<=5/\i<=b.length/\0<=n/\n<128 ^ i/\cF b=ZI (b.drop i) i n)/\zs=⟨(5,iA n)::(6,iA (128 ^ i:Int))::(7,iA i)::T,U⟩) ?_;(conv=>whnf);refine⟨?_,?_⟩
 ·exact⟨0,0,⟨rfl,zB,zB,zB,by decide,rfl⟩,rfl⟩
 ·rintro zn st ⟨i,n,⟨q0,q1,q2,q3,q4,q5⟩,rfl⟩;rw[q5];clear q5;by_cases hib:i<b.length
  case neg=>
   have e:b.drop i=[]:=yDr zB;rw[e]
   show vZ _ _ _ _ _ (aI (inB 0 (XZ _ _ _ _ (Fin _ _ [] (.tup [iA 0,iA 0,iA 6]) []))) _)
   generalize (128 ^ i:Int)=Pw at *;refine WW ?_;exact zJ
  have hx:=hb (b.getD i default) (by simp[List.getD,hib]);have hy:=zM yA b i hib;have e:b.drop i=b.getD i default::b.drop (i+1):=by rw[yCw hib];simp[List.getD,hib]
  rw[e];clear e;generalize hr:b.drop (i+1)=r at *;generalize hx':b.getD i default=x at *;by_cases hi5:i=5
  ·subst hi5
   show vZ _ _ _ _ _ (aI (inB 0 (XZ _ _ _ _ (Fin _ _ [] (.tup [iA 0,iA 0,iA 6]) []))) _)
   generalize (128 ^ 5:Int)=Pw at *;refine WW ?_;exact zJ
  have ht:x.tmod 128=x % 128:=yBz hx.1;have hPb:=zPi (i:=i) zB;have hPw:1<=(128:Int) ^ i/\(128:Int) ^ i<=268435456:=by omega
  have hz:=zIp (x:=x.tmod 128) (P:=128 ^ i) zB zB zB zB;have hso:=zXg (i:=i) (n:=n) (x:=x.tmod 128) zB q3 q4 zB zB;have hP1:(128:Int) ^ (i+1)=128 ^ i*128:=rfl;by_cases h128:128<=x
  ·have e:ZI (x::r) i n=ZI r (i+1) (n+x.tmod 128*128 ^ i):=by rw[ZI,yAc hi5,yAd h128]
   rw[e];clear hso hPb hx';generalize (128:Int) ^ i=Pw at *;have hir:ZM .i64 (x.tmod 128*Pw):=by generalize x.tmod 128*Pw=Z' at *;exact⟨zB,zB⟩
   have hir2:ZM .i64 (n+x.tmod 128*Pw):=by generalize x.tmod 128*Pw=Z' at *;exact⟨zB,zB⟩
   have hm1:0<=n+x.tmod 128*Pw/\n+x.tmod 128*Pw<Pw*128:=by generalize x.tmod 128*Pw=Z' at *;omega
   (repeat' (first|refine uP ?_|apply xM|apply xZ|intro hc|(refine zE ?_;first|(refine wE ?_;first|refine yJ (aP Z Z hir) Z ?_|refine yJ (aO Z Z hir2) Z ?_)|refine SM ?_)|fail))
   refine⟨zn-1,zB,i+1,n+x.tmod 128*Pw,⟨zB,zB,zB,hm1.1,by rw[hP1];exact hm1.2,by rw[hr]⟩,?_⟩;rw[hP1];rfl
  ·have hxm:x.tmod 128=x:=by omega
   have e:ZI (x::r) i n=if 4294967295<n+x.tmod 128*128 ^ i∨(0<i/\x=0)then(0,0,6)else(n+x.tmod 128*128 ^ i,(i:Int)+1,0):=by rw[ZI,yAc hi5,yAc h128]
   have c:=EU (n+x.tmod 128*128 ^ i);rw[e];rw[hxm]at hso;rw[hxm]at c hz⊢;clear hPb hx' e;generalize (128:Int) ^ i=Pw at *;have hir:ZM .i64 (x.tmod 128*Pw):=by rw[hxm];generalize x*Pw=Z' at *;exact⟨zB,zB⟩
   have hir2:ZM .i64 (n+x.tmod 128*Pw):=by rw[hxm];generalize x*Pw=Z' at *;exact⟨zB,zB⟩
   by_cases hbad:4294967295<n+x*Pw∨(0<i/\x=0)
   ·have hne:szF (n+x*Pw)≠(i:Int)+1:=λh=>hso.1 h hbad
    rw[yAd hbad];clear hso hbad;generalize szF (n+x*Pw)=s at *;rw[<-hxm]at c hz
    (have zc1:=c;(repeat' (first|refine uP ?_|apply xM|apply xZ|intro hc|(refine zE ?_;first|(refine wE ?_;first|refine yJ (aP Z Z hir) Z ?_|refine yJ (aO Z Z hir2) Z ?_)|refine SM ?_)|fail))<;>clear zc1)
    exact zJ
   ·have heq:=hso.2 hbad;rw[heq]at c;rw[yAc hbad];clear hso hbad heq;rw[<-hxm]at c hz⊢
    (have zc1:=c;(repeat' (first|refine uP ?_|apply xM|apply xZ|intro hc|(refine zE ?_;first|(refine wE ?_;first|refine yJ (aP Z Z hir) Z ?_|refine yJ (aO Z Z hir2) Z ?_)|refine SM ?_)|fail))<;>clear zc1)
    exact zJ
section
variable {P:Program} {tm:List (Nat×AV)} {h:List (Nat×xO)} {tx ty:Nat} {x y:Operand}
def zUk:∀k:_root_.Fin 256,IntKind.u8.wrap (BitVec.ofInt IntKind.u8.bits (k.val:Int) &&& BitVec.ofInt IntKind.u8.bits 127).toNat=((k.val:Int)).tmod 128:=by decide +kernel
def ZQ {m:Int} (hx:yO (zG tm) x= .s (.int .u8 m)) (hy:yO (zG tm) y= .s (.int .u8 127)) (h0:0<=m/\m<256):wS P ⟨tm,h⟩ (.binOp .and tx x y ty) (.s (.int .u8 (m.tmod 128))) [] [] []:=by
 have e:=zUk ⟨m.toNat,zB⟩;simp only[show((m.toNat:Nat):Int)=m by omega]at e;rw[<-e];exact PZ hx hy
end
def zPj (a b:Nat) (ha:a<2 ^ 60) (hb:b<2 ^ 60):orI a b=((a ||| b:Nat):Int):=by
 have h:=yF2 ha hb;unfold orI;rw[show BitVec.ofInt IntKind.i64.bits (a:Int)=BitVec.ofNat IntKind.i64.bits a from yDy ..];rw[show BitVec.ofInt IntKind.i64.bits (b:Int)=BitVec.ofNat IntKind.i64.bits b from yDy ..];rw[yF6,yDv,yDv,yC6 (yBo ha (yEi xL xL)),yC6 (yBo hb (yEi xL xL))];refine kG ⟨?_,?_⟩
 ·show(-9223372036854775808:Int)<=_
  omega
 ·show _<=(9223372036854775807:Int)
  have:(2:Nat) ^ 60=1152921504606846976:=rfl;omega
def zUl {i:Nat} {n y:Int} (h:i<=4) (h0:0<=n) (h1:n<128 ^ i) (y0:0<=y) (y1:y<128):orI n (IntKind.i64.wrap (y*2 ^ (min ((7*(i:Int)).toNat) IntKind.i64.bits)))=n+y*128 ^ i:=by
 have hb:IntKind.i64.bits=64:=rfl;have e1:min ((7*(i:Int)).toNat) 64=7*i:=by omega
 have e2:(2:Int) ^ (7*i)=128 ^ i:=by rw[Int.pow_mul];rfl
 rw[hb,e1,e2];have hP:1<=(128:Int) ^ i/\(128:Int) ^ i<=268435456:=by have:=zPi h;omega
 have hz:=zIp y0 y1 hP.1 hP.2;rw[show IntKind.i64.wrap (y*128 ^ i)=y*128 ^ i from kG (k:= .i64) (by unfold ZM;generalize y*128 ^ i=Z' at *;generalize (128:Int) ^ i=Pw at *;omega)];obtain⟨a,rfl⟩:=yCa h0;obtain⟨c,rfl⟩:=yCa y0;have hPn:(128:Int) ^ i=((128 ^ i:Nat):Int):=by simp
 rw[hPn]at h1 hz hP⊢;have ha:a<128 ^ i:=by omega
 rw[show((c:Int)*((128 ^ i:Nat):Int))=((c*128 ^ i:Nat):Int) by simp]at hz⊢;rw[zPj a (c*128 ^ i) (by have:(2:Nat) ^ 60=1152921504606846976:=rfl;omega) (by have:(2:Nat) ^ 60=1152921504606846976:=rfl;omega)];have e3:(128:Nat) ^ i=2 ^ (7*i):=by rw[Nat.pow_mul]
 rw[e3]at ha⊢;have:=yEb ha c;rw[yFm]at this;rw[Nat.or_comm,<-this];omega
theorem zXi (b:List Int) (hb:BY b) (hn:b.length<=100000):zN 140 [zC yA b] [] (.tup [iA (cF b).1,iA (cF b).2.1,iA (cF b).2.2]) []:=by
 have hl:=zA yA b;refine eM call140 λF hF=>?_
 refine WW ?_;refine kO (b) [] [] [8,9] [5,10,8,9] Z (λi pre T U zs=>∃n:Int,(0<=n/\n<128 ^ i/\i<=5/\∀post,b=pre++post->cF b=ZI post i n)/\zs=⟨(5,iA n)::(10,iA i)::T,U⟩) ?_;(conv=>whnf);refine⟨?_,?_,?_⟩
 ·exact⟨0,⟨zB,by decide,zB,λpost h=>by rw[h];rfl⟩,rfl⟩
 ·rintro i pre x r st hx hi ⟨n,⟨q0,q1,q2,q3⟩,rfl⟩;have hy:=xG yA hx hi;have hlt:=yP hx hi;have hxb:=hb x (wT hx);rw[q3 _ hx]
  have q4:∀post,b=pre++[x]++post->post=r:=λpost h=>by
   rw[hx,yA6]at h;simpa using h.symm
  clear q3 hx;by_cases hi5:i=5
  ·subst hi5
   show vZ _ _ _ _ _ (aI (inB 0 (XZ _ _ _ _ (Fin _ _ [] (.tup [iA 0,iA 0,iA 6]) []))) _)
   clear q4;refine WW ?_;exact zJ
  have ht:x.tmod 128=x % 128:=yBz hxb.1;have hPb:=zPi (i:=i) zB;have hPw:1<=(128:Int) ^ i/\(128:Int) ^ i<=268435456:=by omega
  have hz:=zIp (x:=x.tmod 128) (P:=128 ^ i) zB zB zB zB;have hE:=zUl (i:=i) (n:=n) (y:=x.tmod 128) zB q0 q1 zB zB;have hP1:(128:Int) ^ (i+1)=128 ^ i*128:=rfl;by_cases h128:128<=x
  ·have e:ZI (x::r) i n=ZI r (i+1) (n+x.tmod 128*128 ^ i):=by rw[ZI,yAc hi5,yAd h128]
   rw[e]
   have hm1:0<=n+x.tmod 128*128 ^ i/\n+x.tmod 128*128 ^ i<128 ^ (i+1):=by
    rw[hP1];generalize x.tmod 128*128 ^ i=Z' at *;omega
   clear hPb e hz;generalize n+x.tmod 128*128 ^ i=M at*
   (repeat' (first|refine uP ?_|apply xM|apply xZ|intro hc|(refine zE ?_;first|(refine wE ?_;refine yJ (ZQ Z Z hxb) Z ?_)|refine SM ?_)|fail))
   refine⟨M,⟨hm1.1,hm1.2,zB,λpost h=>by rw[q4 post h]⟩,?_⟩;rw[<-hE];rfl
  ·have e:ZI (x::r) i n=if 4294967295<n+x.tmod 128*128 ^ i∨(0<i/\x=0)then(0,0,6)else(n+x.tmod 128*128 ^ i,(i:Int)+1,0):=by rw[ZI,yAc hi5,yAc h128]
   rw[e]
   have hm1:0<=n+x.tmod 128*128 ^ i/\n+x.tmod 128*128 ^ i<128 ^ (i+1):=by
    rw[hP1];generalize x.tmod 128*128 ^ i=Z' at *;omega
   clear hPb e hz q4 hP1;generalize n+x.tmod 128*128 ^ i=M at *;by_cases hbad:4294967295<M∨(0<i/\x=0)
   ·rw[yAd hbad];by_cases hM:4294967295<M
    ·clear hbad
     (repeat' (first|refine uP ?_|apply xM|apply xZ|intro hc|(refine zE ?_;first|(refine wE ?_;refine yJ (ZQ Z Z hxb) Z ?_)|refine SM ?_)|fail))
     exact zJ
    ·obtain⟨h1,h2⟩:=hbad.resolve_left hM
     (repeat' (first|refine uP ?_|apply xM|apply xZ|intro hc|(refine zE ?_;first|(refine wE ?_;refine yJ (ZQ Z Z hxb) Z ?_)|refine SM ?_)|fail))
     exact zJ
   ·rw[yAc hbad];by_cases hi0:0<i
    ·have hx0:x≠0:=λh=>hbad (.inr ⟨hi0,h⟩)
     (repeat' (first|refine uP ?_|apply xM|apply xZ|intro hc|(refine zE ?_;first|(refine wE ?_;refine yJ (ZQ Z Z hxb) Z ?_)|refine SM ?_)|fail))
     rw[<-hE];exact zJ
    ·(repeat' (first|refine uP ?_|apply xM|apply xZ|intro hc|(refine zE ?_;first|(refine wE ?_;refine yJ (ZQ Z Z hxb) Z ?_)|refine SM ?_)|fail))
     rw[<-hE];exact zJ
 ·rintro st ⟨n,⟨q0,q1,q2,q3⟩,rfl⟩;rw[q3 [] zS]
  show vZ _ _ _ _ _ (aI (inB 0 (XZ _ _ _ _ (Fin _ _ [] (.tup [iA 0,iA 0,iA 6]) []))) _)
  refine WW ?_;exact zJ
theorem zIq:∀(r:List Int) (i:Nat) (n:Int),BY r->0<=n->(ZI r i n=(0,0,6))∨((ZI r i n).2.2=0/\0<=(ZI r i n).1/\(ZI r i n).1<=4294967295/\(i:Int)+1<=(ZI r i n).2.1/\(ZI r i n).2.1<=i+r.length)
 | [],i,n,_,_=> .inl Z
 | x::r,i,n,hb,hn=>by
  have hx:=hb x zS
  have hp:0<=n+x.tmod 128*128 ^ i:=by
   have h1:0<=x.tmod 128:=by rw[yBz hx.1];omega
   have h2:(0:Int)<=128 ^ i:=Int.pow_nonneg zB;have:=yGd h1 h2;omega
  rw[ZI];by_cases h5:i=5
  ·exact .inl (yAd h5)
  rw[yAc h5];by_cases h1:128<=x
  ·rw[yAd h1]
   rcases zIq r (i+1) (n+x.tmod 128*128 ^ i) (λy hy=>hb y (by simp[hy])) hp with h|⟨a,b,c,d,e⟩
   ·exact .inl h
   ·refine .inr ⟨a,b,c,zB,?_⟩;rw[yAp];omega
  ·rw[yAc h1];by_cases h2:4294967295<n+x.tmod 128*128 ^ i∨(0<i/\x=0)
   ·exact .inl (yAd h2)
   ·rw[yAc h2];refine .inr ⟨rfl,hp,zB,yCj _,?_⟩
    show(i:Int)+1<=_
    rw[yAp];omega
def IU (b:List Int) (hb:BY b):cF b=(0,0,6)∨((cF b).2.2=0/\0<=(cF b).1/\(cF b).1<=4294967295/\1<=(cF b).2.1/\(cF b).2.1<=b.length):=by
 have:=zIq b 0 0 hb (yCj _)
 rcases this with h|⟨a,b,c,d,e⟩
 ·exact .inl h
 ·exact .inr ⟨a,b,c,by have:(0:Int)+1<=(cF _).2.1:=d;omega,by have:(cF _).2.1<=(0:Int)+_:=e;omega⟩
def aE:Nat->List Int->Option (List Int×List Int)
 |0,b=>some ([],b)
 |n+1,b=>if(cF b).2.2=0 then(match aE n (b.drop (cF b).2.1.toNat)with|none=>none|some (l,r)=>some ((cF b).1::l,r))else none
def nbG (l:List Int):Option (List Int×List Int)->Option (List Int×List Int)
 |none=>none
 |some (k,r)=>some (l++k,r)
def IV (o:Option (List Int×List Int)):nbG [] o=o:=by
 cases o with
 |none=>rfl
 |some p=>rfl
def zAv {l b:List Int} {n:Nat} (h:(cF b).2.2≠0):nbG l (aE (n+1) b)=none:=by
 rw[aE,yAc h];rfl
def zAw {l b:List Int} {n:Nat} (h:(cF b).2.2=0):nbG l (aE (n+1) b)=nbG (l++[(cF b).1]) (aE n (b.drop (cF b).2.1.toNat)):=by
 rw[aE,yAd h]
 cases aE n (b.drop (cF b).2.1.toNat)with
 |none=>rfl
 |some p=>obtain⟨k,r⟩:=p;simp[nbG]
def AR:Option (List Int×List Int)->AV
 |none=> .tup [zC iA [],zC yA [],bA false]
 |some (l,r)=> .tup [zC iA l,zC yA r,bA true]
def YZ (b:List Int) (n:Nat) (hb:BY b) (hbn:b.length<=100000) (hn:n<=1000):zN 104 [zC yA b,iA n] [] (AR (aE n b)) []:=by
 refine eM call104 λF hF=>?_
 refine WW ?_;refine vY 12 Z ?_;refine xS (n) [12] [] [13] [0,7,14,13] Z (λi T U zs=>∃acc c,(acc.length=i/\BY c/\c.length<=100000/\aE n b=nbG acc (aE (n-i) c))/\zs=⟨(0,zC yA c)::(7,.ref 12 0 (acc.map iA).length)::(14,iA i)::T,(12,.arr 1 (acc.map iA) true)::U⟩) ?_;(conv=>whnf);refine⟨?_,?_,?_⟩
 ·exact⟨[],b,⟨rfl,hb,hbn,by rw[IV];rfl⟩,rfl⟩
 ·rintro i st hi ⟨acc,c,⟨q0,q1,q2,q3⟩,rfl⟩;have hd:=zXi c q1 q2;have hl:=zA yA c;have hla:=zA iA acc;rw[show n-i=(n-(i+1))+1 by omega]at q3
  rcases IU c q1 with h|⟨h1,h2,h3,h4,h5⟩
  ·rw[q3,zAv (by rw[h];decide)];rw[h]at hd;clear q3 h
   show vZ _ _ _ _ _ (aI (inB 0 (XZ _ _ _ _ (Fin _ _ [] (.tup [zC iA [],zC yA [],bA false]) []))) _)
   refine zV hd ?_;exact zJ
  ·rw[zAw h1]at q3;rw[h1]at hd;have hbd:BY (c.drop (cF c).2.1.toNat):=λy hy=>q1 y (yBc hy)
   have hcd:(c.drop (cF c).2.1.toNat).length<=100000:=by rw[yA7];omega
   clear h1;rw[q3];generalize (cF c).1=v at *;generalize (cF c).2.1=k at *;refine zV hd ?_;refine⟨acc++[v],c.drop k.toNat,⟨by simp[q0],hbd,hcd,rfl⟩,?_⟩;rw[yAn];rfl
 ·rintro st ⟨acc,c,⟨q0,q1,q2,q3⟩,rfl⟩;rw[q3,yCm]
  show vZ _ _ _ _ _ (aI (inB 0 (XZ _ _ _ _ (Fin _ _ [] (.tup [zC iA (acc++[]),zC yA c,bA true]) []))) _)
  rw[yA8];refine WW ?_;exact zH [] Z Z (yBa (λz=>AV.tup [z,zC yA c,bA true]) (cG _ _)) Z
def VB (b:List Int) (n:Nat) (hb:BY b) (hbn:b.length<=100000) (hn:n<=1000):zN 108 [zC yA b,iA n] [] (AR (aE n b)) []:=by
 refine eM call108 λF hF=>?_
 refine WW ?_;refine xC 7 1001 1 Z Z Z ?_;refine xS (n) [1001] [] [11] [0,7,12,11] Z (λi T U zs=>∃acc c,(acc.length=i/\BY c/\c.length<=100000/\aE n b=nbG acc (aE (n-i) c))/\zs=⟨(0,zC yA c)::(7,.ref 1001 0 (acc.map iA).length)::(12,iA i)::T,(1001,.arr 1 (acc.map iA) true)::U⟩) ?_;(conv=>whnf);refine⟨?_,?_,?_⟩
 ·exact⟨[],b,⟨rfl,hb,hbn,by rw[IV];rfl⟩,rfl⟩
 ·rintro i st hi ⟨acc,c,⟨q0,q1,q2,q3⟩,rfl⟩;have hd:=zXh c q1 q2;have hl:=zA yA c;have hla:=zA iA acc;rw[show n-i=(n-(i+1))+1 by omega]at q3
  rcases IU c q1 with h|⟨h1,h2,h3,h4,h5⟩
  ·rw[q3,zAv (by rw[h];decide)];rw[h]at hd;clear q3 h
   show vZ _ _ _ _ _ (aI (inB 0 (XZ _ _ _ _ (Fin _ _ [] (.tup [zC iA [],zC yA [],bA false]) []))) _)
   refine zV hd ?_;exact zJ
  ·rw[zAw h1]at q3;rw[h1]at hd;have hbd:BY (c.drop (cF c).2.1.toNat):=λy hy=>q1 y (yBc hy)
   have hcd:(c.drop (cF c).2.1.toNat).length<=100000:=by rw[yA7];omega
   clear h1;rw[q3];generalize (cF c).1=v at *;generalize (cF c).2.1=k at *;refine zV hd ?_;refine⟨acc++[v],c.drop k.toNat,⟨by simp[q0],hbd,hcd,rfl⟩,?_⟩;rw[yAn];rfl
 ·rintro st ⟨acc,c,⟨q0,q1,q2,q3⟩,rfl⟩;rw[q3,yCm]
  show vZ _ _ _ _ _ (aI (inB 0 (XZ _ _ _ _ (Fin _ _ [] (.tup [zC iA (acc++[]),zC yA c,bA true]) []))) _)
  rw[yA8];refine WW ?_;exact zH [] Z Z (yBa (λz=>AV.tup [z,zC yA c,bA true]) (cG _ _)) Z
end Av
end Go.Proofs.YteajjdidebfcjaaGreat
