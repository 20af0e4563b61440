/- Part 7. -/
import Derived.Test.YteajjdidebfcjaaGreatV06
namespace Go.Proofs.YteajjdidebfcjaaGreat
namespace Av
open Tryz
set_option linter.all false
set_option maxRecDepth 4000
set_option maxHeartbeats 2000000
def qU (r:Rq) (k:Nat):AV:= .agg [iA r.id,iA r.vh,iA r.cls,iA r.til,.ref k 0 (r.legs.map xW).length]
def eE (r:Rq):xN:= .arr 5 (r.legs.map xW) false
def MO (l:List Lg) (h1:1<=l.length) (hl:l.length<=1000):zO 167 [zD xW l] [] (.ref 1101 0 (l.map xW).length) [(1101,.arr 5 (l.map xW) false)]:=by
 have hll:=zA xW l;refine eM call167 λF hF=>?_
 refine yX 0 Z (λcap hx=>?_) ?_
 ·have:l=[]:=by simpa using hx
  subst this;simp at h1
 ·(repeat' (first|refine WV ?_|refine SG (I2 (λhc=>?_) λhc=>?_)|refine SG λhc=>?_|(refine zE ?_;first|(refine xR ?_;refine qE (nw:=[1101]) (yK tok 1101 (xs:=[]) Z Z Z Z Z Z Z Z Z) Z Z Z ?_))|refine SB ?_|(first|refine xS ?_|refine xC ?_|refine vQ Z ?_|refine yC Z ?_|refine zU Z ?_|refine xH Z (λhc=>?_) λhc=>?_|refine yZ ?_|refine yU ?_|refine xB ?_|refine yQ ?_)|fail))
  exact zL [1101] Z Z Z Z
def gK (r:Rq) (h1:1<=r.legs.length) (hl:r.legs.length<=1000):zO 209 [yL r] [] (qU r 1101) [(1101,eE r)]:=by
 have c:=MO r.legs h1 hl;have hll:=zA xW r.legs;refine eM call209 λF hF=>?_
 refine zY c ?_;exact zL [1101] Z Z Z Z
def MP (l:List Lg) (h1:1<=l.length) (hl:l.length<=1000):zO 167 [zD xW l] [] (.ref 1102 0 (l.map xW).length) [(1102,.arr 5 (l.map xW) false)]:=by
 have hll:=zA xW l;refine eM call167 λF hF=>?_
 refine yX 0 Z (λcap hx=>?_) ?_
 ·have:l=[]:=by simpa using hx
  subst this;simp at h1
 ·(repeat' (first|refine WV ?_|refine SG (I2 (λhc=>?_) λhc=>?_)|refine SG λhc=>?_|(refine zE ?_;first|(refine xR ?_;refine qE (nw:=[1102]) (yK tok 1102 (xs:=[]) Z Z Z Z Z Z Z Z Z) Z Z Z ?_))|refine SB ?_|(first|refine xS ?_|refine xC ?_|refine vQ Z ?_|refine yC Z ?_|refine zU Z ?_|refine xH Z (λhc=>?_) λhc=>?_|refine yZ ?_|refine yU ?_|refine xB ?_|refine yQ ?_)|fail))
  exact zL [1102] Z Z Z Z
def aJ (r:Rq) (h1:1<=r.legs.length) (hl:r.legs.length<=1000):zO 209 [yL r] [] (qU r 1102) [(1102,eE r)]:=by
 have c:=MP r.legs h1 hl;have hll:=zA xW r.legs;refine eM call209 λF hF=>?_
 refine zY c ?_;exact zL [1102] Z Z Z Z
def MQ (l:List Lg) (h1:1<=l.length) (hl:l.length<=1000):zO 167 [zD xW l] [] (.ref 1103 0 (l.map xW).length) [(1103,.arr 5 (l.map xW) false)]:=by
 have hll:=zA xW l;refine eM call167 λF hF=>?_
 refine yX 0 Z (λcap hx=>?_) ?_
 ·have:l=[]:=by simpa using hx
  subst this;simp at h1
 ·(repeat' (first|refine WV ?_|refine SG (I2 (λhc=>?_) λhc=>?_)|refine SG λhc=>?_|(refine zE ?_;first|(refine xR ?_;refine qE (nw:=[1103]) (yK tok 1103 (xs:=[]) Z Z Z Z Z Z Z Z Z) Z Z Z ?_))|refine SB ?_|(first|refine xS ?_|refine xC ?_|refine vQ Z ?_|refine yC Z ?_|refine zU Z ?_|refine xH Z (λhc=>?_) λhc=>?_|refine yZ ?_|refine yU ?_|refine xB ?_|refine yQ ?_)|fail))
  exact zL [1103] Z Z Z Z
def UM (r:Rq) (h1:1<=r.legs.length) (hl:r.legs.length<=1000):zO 209 [yL r] [] (qU r 1103) [(1103,eE r)]:=by
 have c:=MQ r.legs h1 hl;have hll:=zA xW r.legs;refine eM call209 λF hF=>?_
 refine zY c ?_;exact zL [1103] Z Z Z Z
def MR (l:List Lg) (h1:1<=l.length) (hl:l.length<=1000):zO 167 [zD xW l] [] (.ref 1104 0 (l.map xW).length) [(1104,.arr 5 (l.map xW) false)]:=by
 have hll:=zA xW l;refine eM call167 λF hF=>?_
 refine yX 0 Z (λcap hx=>?_) ?_
 ·have:l=[]:=by simpa using hx
  subst this;simp at h1
 ·(repeat' (first|refine WV ?_|refine SG (I2 (λhc=>?_) λhc=>?_)|refine SG λhc=>?_|(refine zE ?_;first|(refine xR ?_;refine qE (nw:=[1104]) (yK tok 1104 (xs:=[]) Z Z Z Z Z Z Z Z Z) Z Z Z ?_))|refine SB ?_|(first|refine xS ?_|refine xC ?_|refine vQ Z ?_|refine yC Z ?_|refine zU Z ?_|refine xH Z (λhc=>?_) λhc=>?_|refine yZ ?_|refine yU ?_|refine xB ?_|refine yQ ?_)|fail))
  exact zL [1104] Z Z Z Z
def JW (r:Rq) (h1:1<=r.legs.length) (hl:r.legs.length<=1000):zO 209 [yL r] [] (qU r 1104) [(1104,eE r)]:=by
 have c:=MR r.legs h1 hl;have hll:=zA xW r.legs;refine eM call209 λF hF=>?_
 refine zY c ?_;exact zL [1104] Z Z Z Z
def zNx (a:Rq) (ha:1<=a.legs.length) (ga:a.legs.length<=1000):zO 176 [zD yL [a],.fn 205 []] [] (.ref 1001 0 1) [(1001,.arr 5 [qU a 1101] ⟨false,true⟩),(1101,eE a)]:=by
 have ca:=vO a;have da:=gK a ha ga;refine eM call176 λF hF=>?_
 refine WW ?_;refine xA 5 1001 5 Z Z Z ?_;refine wM 2 [1001,1101] [5,10,1,8,9] Z ?_;refine yH (st0:=⟨[(5,.ref 1001 0 0),(10,iA 0),(1,.fn 205 []),(8,.sl false [yL a]),(9,iA 1)],[(1001,.arr 5 [] ⟨true,false⟩)]⟩) Z ?_
 (have zc1:=ca;have zc2:=da;(repeat' (first|refine MF ?_|apply xL|apply wB|intro hc|(refine zE ?_;first|(refine xR ?_;refine cN (xs:=[_]) 1002 tok Z Z Z Z Z Z Z Z Z Z Z Z ?_)|(refine yD ?_;first|refine qR tok Z Z Z Z Z Z Z (by intro y hy;cases hy;rfl) Z Z Z zW Z ?_|refine kQ tok Z Z Z Z Z Z Z Z Z Z Z (by intro y hy;cases hy;rfl) zW Z ?_))|refine SB ?_|fail))<;>clear zc1 zc2)
 refine yH (st0:=⟨[(5,.ref 1001 0 1),(10,iA 1),(1,.fn 205 []),(8,.sl false [yL a]),(9,iA 1)],[(1001,.arr 5 [qU a 1101] ⟨false,true⟩),(1101,eE a)]⟩) Z ?_;refine WW ?_;exact zL [1001,1101] Z Z Z Z
def EF (a:Rq) (ha:1<=a.legs.length) (ga:a.legs.length<=1000):zO 171 [zD yL [a]] [] (.ref 1001 0 1) [(1001,.arr 5 [qU a 1101] ⟨false,true⟩),(1101,eE a)]:=by
 have c:=zNx a ha ga;refine eM call171 λF hF=>?_
 refine zY c ?_;exact zL [1001,1101] Z Z Z Z
def zNy (a b:Rq) (ha:1<=a.legs.length) (ga:a.legs.length<=1000) (hb:1<=b.legs.length) (gb:b.legs.length<=1000):zO 176 [zD yL [a,b],.fn 205 []] [] (.ref 1001 0 2) [(1001,.arr 5 [qU a 1101,qU b 1102] ⟨true,true⟩),(1101,eE a),(1102,eE b)]:=by
 have ca:=vO a;have da:=gK a ha ga;have cb:=vO b;have db:=aJ b hb gb;refine eM call176 λF hF=>?_
 refine WW ?_;refine xA 5 1001 5 Z Z Z ?_;refine wM 3 [1001,1101,1102] [5,10,1,8,9] Z ?_;refine yH (st0:=⟨[(5,.ref 1001 0 0),(10,iA 0),(1,.fn 205 []),(8,.sl false [yL a,yL b]),(9,iA 2)],[(1001,.arr 5 [] ⟨true,false⟩)]⟩) Z ?_
 (have zc1:=ca;have zc2:=da;(repeat' (first|refine MF ?_|apply xL|apply wB|intro hc|(refine zE ?_;first|(refine xR ?_;refine cN (xs:=[_]) 1002 tok Z Z Z Z Z Z Z Z Z Z Z Z ?_)|(refine yD ?_;first|refine qR tok Z Z Z Z Z Z Z (by intro y hy;cases hy;rfl) Z Z Z zW Z ?_|refine kQ tok Z Z Z Z Z Z Z Z Z Z Z (by intro y hy;cases hy;rfl) zW Z ?_))|refine SB ?_|fail))<;>clear zc1 zc2)
 refine yH (st0:=⟨[(5,.ref 1001 0 1),(10,iA 1),(1,.fn 205 []),(8,.sl false [yL a,yL b]),(9,iA 2)],[(1001,.arr 5 [qU a 1101] ⟨false,true⟩),(1101,eE a)]⟩) Z ?_
 (have zc1:=cb;have zc2:=db;(repeat' (first|refine MF ?_|apply xL|apply wB|intro hc|(refine zE ?_;first|(refine xR ?_;refine cN (xs:=[_]) 1002 tok Z Z Z Z Z Z Z Z Z Z Z Z ?_)|(refine yD ?_;first|refine qR tok Z Z Z Z Z Z Z (by intro y hy;cases hy;rfl) Z Z Z zW Z ?_|refine kQ tok Z Z Z Z Z Z Z Z Z Z Z (by intro y hy;cases hy;rfl) zW Z ?_))|refine SB ?_|fail))<;>clear zc1 zc2)
 refine yH (st0:=⟨[(5,.ref 1001 0 2),(10,iA 2),(1,.fn 205 []),(8,.sl false [yL a,yL b]),(9,iA 2)],[(1001,.arr 5 [qU a 1101,qU b 1102] ⟨true,true⟩),(1101,eE a),(1102,eE b)]⟩) Z ?_;refine WW ?_;exact zL [1001,1101,1102] Z Z Z Z
def EG (a b:Rq) (ha:1<=a.legs.length) (ga:a.legs.length<=1000) (hb:1<=b.legs.length) (gb:b.legs.length<=1000):zO 171 [zD yL [a,b]] [] (.ref 1001 0 2) [(1001,.arr 5 [qU a 1101,qU b 1102] ⟨true,true⟩),(1101,eE a),(1102,eE b)]:=by
 have c:=zNy a b ha ga hb gb;refine eM call171 λF hF=>?_
 refine zY c ?_;exact zL [1001,1101,1102] Z Z Z Z
def zNz (a b c:Rq) (ha:1<=a.legs.length) (ga:a.legs.length<=1000) (hb:1<=b.legs.length) (gb:b.legs.length<=1000) (hc:1<=c.legs.length) (gc:c.legs.length<=1000):zO 176 [zD yL [a,b,c],.fn 205 []] [] (.ref 1001 0 3) [(1001,.arr 5 [qU a 1101,qU b 1102,qU c 1103] ⟨true,true⟩),(1101,eE a),(1102,eE b),(1103,eE c)]:=by
 have ca:=vO a;have da:=gK a ha ga;have cb:=vO b;have db:=aJ b hb gb;have cc:=vO c;have dc:=UM c hc gc;refine eM call176 λF hF=>?_
 refine WW ?_;refine xA 5 1001 5 Z Z Z ?_;refine wM 4 [1001,1101,1102,1103] [5,10,1,8,9] Z ?_;refine yH (st0:=⟨[(5,.ref 1001 0 0),(10,iA 0),(1,.fn 205 []),(8,.sl false [yL a,yL b,yL c]),(9,iA 3)],[(1001,.arr 5 [] ⟨true,false⟩)]⟩) Z ?_
 (have zc1:=ca;have zc2:=da;(repeat' (first|refine MF ?_|apply xL|apply wB|intro hc|(refine zE ?_;first|(refine xR ?_;refine cN (xs:=[_]) 1002 tok Z Z Z Z Z Z Z Z Z Z Z Z ?_)|(refine yD ?_;first|refine qR tok Z Z Z Z Z Z Z (by intro y hy;cases hy;rfl) Z Z Z zW Z ?_|refine kQ tok Z Z Z Z Z Z Z Z Z Z Z (by intro y hy;cases hy;rfl) zW Z ?_))|refine SB ?_|fail))<;>clear zc1 zc2)
 refine yH (st0:=⟨[(5,.ref 1001 0 1),(10,iA 1),(1,.fn 205 []),(8,.sl false [yL a,yL b,yL c]),(9,iA 3)],[(1001,.arr 5 [qU a 1101] ⟨false,true⟩),(1101,eE a)]⟩) Z ?_
 (have zc1:=cb;have zc2:=db;(repeat' (first|refine MF ?_|apply xL|apply wB|intro hc|(refine zE ?_;first|(refine xR ?_;refine cN (xs:=[_]) 1002 tok Z Z Z Z Z Z Z Z Z Z Z Z ?_)|(refine yD ?_;first|refine qR tok Z Z Z Z Z Z Z (by intro y hy;cases hy;rfl) Z Z Z zW Z ?_|refine kQ tok Z Z Z Z Z Z Z Z Z Z Z (by intro y hy;cases hy;rfl) zW Z ?_))|refine SB ?_|fail))<;>clear zc1 zc2)
 refine yH (st0:=⟨[(5,.ref 1001 0 2),(10,iA 2),(1,.fn 205 []),(8,.sl false [yL a,yL b,yL c]),(9,iA 3)],[(1001,.arr 5 [qU a 1101,qU b 1102] ⟨true,true⟩),(1101,eE a),(1102,eE b)]⟩) Z ?_
 (have zc1:=cc;have zc2:=dc;(repeat' (first|refine MF ?_|apply xL|apply wB|intro hc|(refine zE ?_;first|(refine xR ?_;refine cN (xs:=[_]) 1002 tok Z Z Z Z Z Z Z Z Z Z Z Z ?_)|(refine yD ?_;first|refine qR tok Z Z Z Z Z Z Z (by intro y hy;cases hy;rfl) Z Z Z zW Z ?_|refine kQ tok Z Z Z Z Z Z Z Z Z Z Z (by intro y hy;cases hy;rfl) zW Z ?_))|refine SB ?_|fail))<;>clear zc1 zc2)
 refine yH (st0:=⟨[(5,.ref 1001 0 3),(10,iA 3),(1,.fn 205 []),(8,.sl false [yL a,yL b,yL c]),(9,iA 3)],[(1001,.arr 5 [qU a 1101,qU b 1102,qU c 1103] ⟨true,true⟩),(1101,eE a),(1102,eE b),(1103,eE c)]⟩) Z ?_;refine WW ?_;exact zL [1001,1101,1102,1103] Z Z Z Z
def EH (a b c:Rq) (ha:1<=a.legs.length) (ga:a.legs.length<=1000) (hb:1<=b.legs.length) (gb:b.legs.length<=1000) (hc:1<=c.legs.length) (gc:c.legs.length<=1000):zO 171 [zD yL [a,b,c]] [] (.ref 1001 0 3) [(1001,.arr 5 [qU a 1101,qU b 1102,qU c 1103] ⟨true,true⟩),(1101,eE a),(1102,eE b),(1103,eE c)]:=by
 have c:=zNz a b c ha ga hb gb hc gc;refine eM call171 λF hF=>?_
 refine zY c ?_;exact zL [1001,1101,1102,1103] Z Z Z Z
theorem zN0 (a b c d:Rq) (ha:1<=a.legs.length) (ga:a.legs.length<=1000) (hb:1<=b.legs.length) (gb:b.legs.length<=1000) (hc:1<=c.legs.length) (gc:c.legs.length<=1000) (hd:1<=d.legs.length) (gd:d.legs.length<=1000):zO 176 [zD yL [a,b,c,d],.fn 205 []] [] (.ref 1001 0 4) [(1001,.arr 5 [qU a 1101,qU b 1102,qU c 1103,qU d 1104] ⟨true,true⟩),(1101,eE a),(1102,eE b),(1103,eE c),(1104,eE d)]:=by
 have ca:=vO a;have da:=gK a ha ga;have cb:=vO b;have db:=aJ b hb gb;have cc:=vO c;have dc:=UM c hc gc;have cd:=vO d;have dd:=JW d hd gd;refine eM call176 λF hF=>?_
 refine WW ?_;refine xA 5 1001 5 Z Z Z ?_;refine wM 5 [1001,1101,1102,1103,1104] [5,10,1,8,9] Z ?_;refine yH (st0:=⟨[(5,.ref 1001 0 0),(10,iA 0),(1,.fn 205 []),(8,.sl false [yL a,yL b,yL c,yL d]),(9,iA 4)],[(1001,.arr 5 [] ⟨true,false⟩)]⟩) Z ?_
 (have zc1:=ca;have zc2:=da;(repeat' (first|refine MF ?_|apply xL|apply wB|intro hc|(refine zE ?_;first|(refine xR ?_;refine cN (xs:=[_]) 1002 tok Z Z Z Z Z Z Z Z Z Z Z Z ?_)|(refine yD ?_;first|refine qR tok Z Z Z Z Z Z Z (by intro y hy;cases hy;rfl) Z Z Z zW Z ?_|refine kQ tok Z Z Z Z Z Z Z Z Z Z Z (by intro y hy;cases hy;rfl) zW Z ?_))|refine SB ?_|fail))<;>clear zc1 zc2)
 refine yH (st0:=⟨[(5,.ref 1001 0 1),(10,iA 1),(1,.fn 205 []),(8,.sl false [yL a,yL b,yL c,yL d]),(9,iA 4)],[(1001,.arr 5 [qU a 1101] ⟨false,true⟩),(1101,eE a)]⟩) Z ?_
 (have zc1:=cb;have zc2:=db;(repeat' (first|refine MF ?_|apply xL|apply wB|intro hc|(refine zE ?_;first|(refine xR ?_;refine cN (xs:=[_]) 1002 tok Z Z Z Z Z Z Z Z Z Z Z Z ?_)|(refine yD ?_;first|refine qR tok Z Z Z Z Z Z Z (by intro y hy;cases hy;rfl) Z Z Z zW Z ?_|refine kQ tok Z Z Z Z Z Z Z Z Z Z Z (by intro y hy;cases hy;rfl) zW Z ?_))|refine SB ?_|fail))<;>clear zc1 zc2)
 refine yH (st0:=⟨[(5,.ref 1001 0 2),(10,iA 2),(1,.fn 205 []),(8,.sl false [yL a,yL b,yL c,yL d]),(9,iA 4)],[(1001,.arr 5 [qU a 1101,qU b 1102] ⟨true,true⟩),(1101,eE a),(1102,eE b)]⟩) Z ?_
 (have zc1:=cc;have zc2:=dc;(repeat' (first|refine MF ?_|apply xL|apply wB|intro hc|(refine zE ?_;first|(refine xR ?_;refine cN (xs:=[_]) 1002 tok Z Z Z Z Z Z Z Z Z Z Z Z ?_)|(refine yD ?_;first|refine qR tok Z Z Z Z Z Z Z (by intro y hy;cases hy;rfl) Z Z Z zW Z ?_|refine kQ tok Z Z Z Z Z Z Z Z Z Z Z (by intro y hy;cases hy;rfl) zW Z ?_))|refine SB ?_|fail))<;>clear zc1 zc2)
 refine yH (st0:=⟨[(5,.ref 1001 0 3),(10,iA 3),(1,.fn 205 []),(8,.sl false [yL a,yL b,yL c,yL d]),(9,iA 4)],[(1001,.arr 5 [qU a 1101,qU b 1102,qU c 1103] ⟨true,true⟩),(1101,eE a),(1102,eE b),(1103,eE c)]⟩) Z ?_
 (have zc1:=cd;have zc2:=dd;(repeat' (first|refine MF ?_|apply xL|apply wB|intro hc|(refine zE ?_;first|(refine xR ?_;refine cN (xs:=[_]) 1002 tok Z Z Z Z Z Z Z Z Z Z Z Z ?_)|(refine yD ?_;first|refine qR tok Z Z Z Z Z Z Z (by intro y hy;cases hy;rfl) Z Z Z zW Z ?_|refine kQ tok Z Z Z Z Z Z Z Z Z Z Z (by intro y hy;cases hy;rfl) zW Z ?_))|refine SB ?_|fail))<;>clear zc1 zc2)
 refine yH (st0:=⟨[(5,.ref 1001 0 4),(10,iA 4),(1,.fn 205 []),(8,.sl false [yL a,yL b,yL c,yL d]),(9,iA 4)],[(1001,.arr 5 [qU a 1101,qU b 1102,qU c 1103,qU d 1104] ⟨true,true⟩),(1101,eE a),(1102,eE b),(1103,eE c),(1104,eE d)]⟩) Z ?_;refine WW ?_;exact zL [1001,1101,1102,1103,1104] Z Z Z Z
def EJ (a b c d:Rq) (ha:1<=a.legs.length) (ga:a.legs.length<=1000) (hb:1<=b.legs.length) (gb:b.legs.length<=1000) (hc:1<=c.legs.length) (gc:c.legs.length<=1000) (hd:1<=d.legs.length) (gd:d.legs.length<=1000):zO 171 [zD yL [a,b,c,d]] [] (.ref 1001 0 4) [(1001,.arr 5 [qU a 1101,qU b 1102,qU c 1103,qU d 1104] ⟨true,true⟩),(1101,eE a),(1102,eE b),(1103,eE c),(1104,eE d)]:=by
 have c:=zN0 a b c d ha ga hb gb hc gc hd gd;refine eM call171 λF hF=>?_
 refine zY c ?_;exact zL [1001,1101,1102,1103,1104] Z Z Z Z
theorem OF (K:List Nat) (h:yJ):∀a b:List AV,qN K h (a++b)=qN K h a++qN K h b
 | [],b=>rfl
 |v::a,b=>by rw[yA0,qN,qN,OF K h a b];rfl
theorem JX (K:List Nat) (h:yJ):∀l:List Rq,qN K h (l.map yL)=l.map yL
 | []=>rfl
 |r::l=>by rw[zZj,qN,JX K h l];rfl
theorem RD (K:List Nat) (h:yJ):∀a b:List AV,wT K h (a++b)=wT K h a++wT K h b
 | [],b=>rfl
 |v::a,b=>by rw[yA0,wT,wT,RD K h a b];rfl
theorem OG (K:List Nat) (h:yJ):∀l:List Rq,wT K h (l.map yL)=l.map yL
 | []=>rfl
 |r::l=>by rw[zZj,wT,OG K h l];rfl
theorem WU:∀a b:List AV,wF (a++b)=(wF a&&wF b)
 | [],b=>rfl
 |v::a,b=>by rw[yA0,wF,wF,WU a b,Bool.and_assoc]
theorem RE:∀l:List Rq,wF (l.map yL)=true
 | []=>rfl
 |r::l=>by rw[zZj,wF,RE l];rfl
def ZL (pre:List Rq) (x:Rq) (post:List Rq) (k:Nat):List AV:=pre.map yL++qU x k::post.map yL
def YZ (pre:List Rq) (x:Rq) (post:List Rq) (k:Nat):(ZL pre x post k).length=pre.length+1+post.length:=by simp[ZL];omega
def UN (h:yJ) (pre:List Rq) (x:Rq) (post:List Rq) (b:Bool):kI [1001,1101] h (.arr 5 (ZL pre x post 1101) ⟨b,true⟩)= .arr 5 (ZL pre x post 1101) ⟨b,true⟩:=by
 have e:qN [1001,1101] h (ZL pre x post 1101)=ZL pre x post 1101:=by
  unfold ZL;rw[OF,JX,qN,JX];rfl
 have e2:wF (ZL pre x post 1101)=false:=by
  unfold ZL;rw[WU,RE,wF];rfl
 show xN.arr 5 (qN [1001,1101] h (ZL pre x post 1101)) ⟨b,!wF (qN [1001,1101] h (ZL pre x post 1101))⟩=_
 rw[e,e2];rfl
def zN1 (pre:List Rq) (x:Rq) (post:List Rq) (k:Nat) (y:Rq):ZL pre x post k++[yL y]=ZL pre x (post++[y]) k:=by
 unfold ZL;rw[zYd,zYw];rfl
theorem zN2 (pre:List Rq) (x:Rq) (post:List Rq) (l:List Rq) (hL:l=pre++x::post) (hn:l.length<=1000) (hb:∀r∈l,1<=r.legs.length/\r.legs.length<=1000):
  zO 176 [zD yL l,.fn 205 []] [] (.ref 1001 0 (ZL pre x post 1101).length) [(1001,.arr 5 (ZL pre x post 1101) ⟨true,true⟩),(1101,eE x)]:=by
 have hl:=zA yL l;have hlen:l.length=pre.length+1+post.length:=by rw[hL];simp;omega
 refine eM call176 λF hF=>?_
 refine WW ?_;refine xA 5 1001 5 rfl rfl rfl ?_;refine vH (λn st=>∃i,n+i=l.length/\st=if i<=pre.length then(⟨[(5,.ref 1001 0 ((l.take i).map yL).length),(10,iA i),(1,.fn 205 []),(8,zD yL l),(9,iA (l.map yL).length)],[(1001,.arr 5 ((l.take i).map yL) true)]⟩:St)else⟨[(5,.ref 1001 0 (ZL pre x (post.take (i-pre.length-1)) 1101).length),(10,iA i),(1,.fn 205 []),(8,zD yL l),(9,iA (l.map yL).length)],[(1001,.arr 5 (ZL pre x (post.take (i-pre.length-1)) 1101) ⟨true,true⟩),(1101,eE x)]⟩) l.length [1001,1101] [5,10,1,8,9] rfl ⟨0,zB,by rw[zX3 (zYl _)];rfl⟩ ?_;rintro n st ⟨i,hi,rfl⟩;by_cases hip:i<pre.length
 ·rw[zX3 zB];have hy:=zM yL l i zB;have hm:l.getD i default∈l:=by simp[List.getD,show i<l.length by omega]
  have hs:=hb _ hm
  have e:(l.take (i+1)).map yL=(l.take i).map yL++[yL (l.getD i default)]:=by
   rw[yAj,zYd,zYk zB];simp[List.getD,show i<l.length by omega]
  have hpl:((l.take i).map yL).length=i:=by rw[zX5,zYn];omega
  have hil:i<l.length:=by omega
  clear hm;generalize l.getD i default=r at *;have c1:=vO r;have c2:=UP r zB
  (have zc1:=c1;have zc2:=c2;(repeat' (first|refine uJ ?_|apply xL|apply wB|intro hc|(refine zE ?_;first|(refine yD ?_;refine qE (nw:=[]) (uR true false tok Z Z Z Z Z Z (λh=>by cases h) Z (by intro y hy;cases hy;rfl) Z Z Z Z (by simp only[YZ,zX5,zYn,zYh,zZc,zYv];omega) (λh=>by cases h)) Z Z Z ?_)|refine SM ?_)|fail))<;>clear zc1 zc2)
  exact⟨n-1,zB,i+1,zB,by rw[zX3 zB,e];rfl⟩
 by_cases hie:i=pre.length
 ·rw[zX3 zB];subst hie;have hil:pre.length<l.length:=by omega
  have ht:(l.take pre.length).map yL=pre.map yL:=by rw[hL];simp
  have hy:(l.map yL)[pre.length]? =some (yL x):=by rw[hL];simp
  have hs:=hb x (by rw[hL];simp);rw[ht];clear hL;have c1:=vO x;have c2:=gK x zB zB;have hpt:pre.length<=1000:=by omega
  (have zc1:=c1;have zc2:=c2;(repeat' (first|refine MF ?_|apply xL|apply wB|intro hc|(refine zE ?_;first|(refine xR ?_;refine cN (xs:=[_]) 1002 tok Z Z Z Z Z Z Z Z Z Z Z Z ?_)|(refine yD ?_;refine qE (nw:=[]) (uR true true tok Z Z Z Z Z Z (λh=>by cases h) Z (by intro y hy;cases hy;rfl) Z Z Z Z (by simp only[YZ,zX5,zYn,zYh,zZc,zYv];omega) (λh=>by cases h)) Z Z Z ?_))|refine SB ?_|fail))<;>clear zc1 zc2)
  refine⟨n-1,zB,pre.length+1,zB,?_⟩;rw[zX2 zB,show pre.length+1-pre.length-1=0 by omega];refine zY3 (St.mk _) ?_
  show [(1001,kI [1001,1101] _ (.arr 5 (ZL pre x [] 1101) ⟨true,true⟩)),(1101,eE x)]=_
  rw[UN];rfl
 rw[zX2 zB];by_cases hil:i<l.length
 ·have hy:=zM yL l i hil;have hm:l.getD i default∈l:=by simp[List.getD,hil]
  have hs:=hb _ hm
  have hg:post[i-pre.length-1]? =some (l.getD i default):=by
   have h1:l[i]? =some (l.getD i default):=by simp[List.getD,hil]
   rw[hL,zYt zB]at h1;rw[show i-pre.length=(i-pre.length-1)+1 by omega,List.getElem?_cons_succ]at h1;rw[<-hL]at h1;exact h1
  have e:ZL pre x (post.take (i+1-pre.length-1)) 1101=ZL pre x (post.take (i-pre.length-1)) 1101++[yL (l.getD i default)]:=by
   rw[zN1,show i+1-pre.length-1=(i-pre.length-1)+1 by omega,yAj,hg];rfl
  have hcl:=YZ pre x (post.take (i-pre.length-1)) 1101;have hpt:(post.take (i-pre.length-1)).length<=1000:=by rw[zYn];omega
  have hf:=λh=>UN h pre x (post.take (i+1-pre.length-1)) true
  rw[e]at hf;clear hm hg hL;generalize l.getD i default=r at *;generalize ZL pre x (post.take (i-pre.length-1)) 1101=cs at *;have c1:=vO r;have c2:=UP r zB
  (have zc1:=c1;have zc2:=c2;(repeat' (first|refine uJ ?_|apply xL|apply wB|intro hc|(refine zE ?_;first|(refine yD ?_;refine qE (nw:=[]) (uR true true tok Z Z Z Z Z Z (λh=>by cases h) Z (by intro y hy;cases hy;rfl) Z Z Z Z (by simp only[YZ,zX5,zYn,zYh,zZc,zYv];omega) (λh=>by cases h)) Z Z Z ?_)|refine SM ?_)|fail))<;>clear zc1 zc2)
  refine⟨n-1,zB,i+1,zB,?_⟩;rw[zX2 zB,e];refine zY3 (St.mk _) ?_
  show [(1001,kI [1001,1101] _ (.arr 5 (cs++[yL r]) ⟨true,true⟩)),(1101,eE x)]=_
  rw[hf]
 ·have hf:=λh=>UN h pre x post true
  rw[show i-pre.length-1=post.length by omega,zX6];generalize ZL pre x post 1101=cs at *;refine WW ?_;refine zL [1001,1101] Z Z Z ?_
  show [(1001,kI [1001,1101] _ (.arr 5 cs ⟨true,true⟩)),(1101,eE x)]=_
  rw[hf]
def EK (pre:List Rq) (x:Rq) (post:List Rq) (l:List Rq) (hL:l=pre++x::post) (hn:l.length<=1000) (hb:∀r∈l,1<=r.legs.length/\r.legs.length<=1000):
  zO 171 [zD yL l] [] (.ref 1001 0 (ZL pre x post 1101).length) [(1001,.arr 5 (ZL pre x post 1101) ⟨true,true⟩),(1101,eE x)]:=by
 have c:=zN2 pre x post l hL hn hb;have hf:=λh=>UN h pre x post true
 generalize ZL pre x post 1101=cs at *;refine eM call171 λF hF=>?_
 refine zY c ?_;refine zL [1001,1101] Z Z Z ?_
 show [(1001,kI [1001,1101] _ (.arr 5 cs ⟨true,true⟩)),(1101,eE x)]=_
 rw[hf]
def wnA (p:Int×Int):AV:= .agg [iA p.1,iA p.2]
def nwL (now:Int) (g:Lg) (p:Int×Int):Lg:=⟨g.jn,g.ph,now+p.1,now+p.2,g.sc⟩
def okW (now:Int) (g:Lg) (p:Int×Int):Bool:=mwB g.jn g.ph p.1 p.2 now
def EL (gs:List Lg) (w:List (Int×Int)) (now:Int):Bool:=(gs.zipWith (okW now) w).all id
def aK (l:List Rq) (id:Int) (w:List (Int×Int)) (now:Int):Int:=
 if gY l id=true then(if w.length=(fdQ l id).legs.length/\EL (fdQ l id).legs w now=true then 0 else 8)else 12
def MS (l:List Rq) (id:Int) (w:List (Int×Int)) (now:Int):List Rq:=l.map λr=>if r.id=id then⟨r.id,r.vh,r.cls,r.til,r.legs.zipWith (nwL now) w⟩else r
def BN (gs:List Lg) (w:List (Int×Int)) (now:Int) (i:Nat):List Lg:=(gs.take i).zipWith (nwL now) (w.take i)++gs.drop i
def zCl {gs:List Lg} {w:List (Int×Int)} {now:Int} {i:Nat} (h:w.length=gs.length) (hi:i<=gs.length):(BN gs w now i).length=gs.length:=by
 unfold BN;rw[zX4,yCf,zYn,zYn,zYv];omega
def zSz {gs:List Lg} {w:List (Int×Int)} {now:Int} {i:Nat} (h:w.length=gs.length) (hi:i<gs.length):((BN gs w now i).map xW)[i]? =some (xW (gs.getD i default)):=by
 unfold BN;have e:((gs.take i).zipWith (nwL now) (w.take i)).length=i:=by rw[yCf,zYn,zYn];omega
 rw[zX8,zYt zB,e,yAa,zZt];simp[List.getD,hi]
def zN3 {gs:List Lg} {w:List (Int×Int)} {now:Int} {i:Nat} (h:w.length=gs.length) (hi:i<gs.length):((BN gs w now i).map xW).set i (xW (nwL now (gs.getD i default) (w.getD i default)))=(BN gs w now (i+1)).map xW:=by
 unfold BN;have e:((gs.take i).zipWith (nwL now) (w.take i)).length=i:=by rw[yCf,zYn,zYn];omega
 rw[<-zZ8,yAy _ _ zB,e,yAa,yAe hi,yB4];rw[yAj,yAj,List.zipWith_append (by rw[zYn,zYn];omega)];rw[zYk hi,zYk zB];simp[List.getD,hi,show i<w.length by omega]
def zWa (gs:List Lg) (w:List (Int×Int)) (now:Int):BN gs w now 0=gs:=by simp[BN]
def zN4 {gs:List Lg} {w:List (Int×Int)} {now:Int} (h:w.length=gs.length):BN gs w now gs.length=gs.zipWith (nwL now) w:=by
 unfold BN;rw[zX6,<-h,zX6,h,yBs,zY4]
def zN5 {gs:List Lg} {w:List (Int×Int)} {now:Int} (h:w.length=gs.length) (ha:∀i,i<gs.length->okW now (gs.getD i default) (w.getD i default)=true):EL gs w now=true:=by
 unfold EL;rw[zYi];intro b hb;obtain⟨i,hi,rfl⟩:=yBy.1 hb;rw[yCf]at hi;have:=ha i zB;rw[List.getElem_zipWith];simpa [List.getD,show i<gs.length by omega,show i<w.length by omega]using this
def zS0 {gs:List Lg} {w:List (Int×Int)} {now:Int} {i:Nat} (h:w.length=gs.length) (hi:i<gs.length) (ha:okW now (gs.getD i default) (w.getD i default)=false):EL gs w now=false:=by
 unfold EL;rw[yA4];refine⟨okW now (gs.getD i default) (w.getD i default),?_,by rw[ha];decide⟩
 have:(gs.zipWith (okW now) w)[i]? =some (okW now (gs.getD i default) (w.getD i default)):=by
  rw[List.getElem?_zipWith,zYk hi,zYk zB];simp[List.getD,hi,show i<w.length by omega]
 exact zZk this
def zCm {l pre post:List Rq} {x:Rq} {id:Int} {w:List (Int×Int)} {now:Int} (hL:l=pre++x::post) (hv:ZN l) (hx:x.id=id):MS l id w now=pre++⟨x.id,x.vh,x.cls,x.til,x.legs.zipWith (nwL now) w⟩::post:=by
 have hs:=hv.so;rw[hL,yCa,yCi]at hs;obtain⟨_,⟨h2,_⟩,h3⟩:=hs;unfold MS;rw[hL,zYd,zZj,zX3 hx]
 congr 1
 ·conv=>rhs;rw[<-List.map_id pre]
  refine yA3 λy hy=>?_
  have:=h3 y hy x zW;rw[zX2 zB];rfl
 ·congr 1
  conv=>rhs;rw[<-List.map_id post]
  refine yA3 λy hy=>?_
  have:=h2 y hy;rw[zX2 zB];rfl
def zN6 {h:yJ} {pre post:List Rq} {x:Rq} {b:Bool} {gs:List Lg} (h1:h 1001=some (.arr 5 (ZL pre x post 1101) ⟨b,true⟩)) (h2:h 1101=some (.arr 5 (gs.map xW) false)) (hl:gs.length=x.legs.length):
  wQ [] h (.ref 1001 0 (ZL pre x post 1101).length)=zD yL (pre++⟨x.id,x.vh,x.cls,x.til,gs⟩::post):=by
 have e:wT [] h (ZL pre x post 1101)=(pre++⟨x.id,x.vh,x.cls,x.til,gs⟩::post).map yL:=by
  unfold ZL;rw[RD,OG,wT,OG,zYd,zZj]
  congr 1
  congr 1
  show AV.agg [iA x.id,iA x.vh,iA x.cls,iA x.til,qS [] h (.ref 1101 0 (x.legs.map xW).length)]=_
  have e2:qS [] h (.ref 1101 0 (x.legs.map xW).length)=zD xW gs:=by
   simp only[qS,h2]
   show AV.sl false (((gs.map xW).drop 0).take (x.legs.map xW).length)=_
   rw[zYq,zX5,zYe (by rw[zX5,hl];exact zX7 _)];rfl
  rw[e2];rfl
 have hl2:(ZL pre x post 1101).length=((pre++⟨x.id,x.vh,x.cls,x.til,gs⟩::post).map yL).length:=by rw[YZ];simp;omega
 rw[hl2];simp only[wQ,h1]
 show(bif wF (wT [] h (ZL pre x post 1101))then AV.sl false (((wT [] h (ZL pre x post 1101)).drop 0).take _)else .bot)=_
 rw[e,RE,zYq,zX6];rfl
def LQ {l:List Rq} {id:Int} (h:gY l id=true):∃pre x post,l=pre++x::post/\x.id=id/\(∀y∈pre,y.id≠id)/\fdQ l id=x/\SJ (λr:Rq=>r.id==id) l=(pre.length:Int):=by
 induction l with
 |nil=>cases h
 | cons a l ih=>
  by_cases ha:a.id=id
  ·refine⟨[],a,l,rfl,ha,by simp,(zCq (pre:=[]) Z zW ha).1,PB (pre:=[]) Z zW (by simpa using ha)⟩
  ·have h2:gY l id=true:=by simpa [gY,ha]using h
   obtain⟨pre,x,post,e1,e2,e3,_,_⟩:=ih h2
   have hp:∀y∈a::pre,y.id≠id:=λy hy=>by
    rcases zZg.1 hy with rfl|hy
    ·exact ha
    ·exact e3 y hy
   have e:a::l=(a::pre)++x::post:=by rw[e1];rfl
   exact⟨a::pre,x,post,e,e2,hp,(zCq e hp e2).1,PB e (λy hy=>by simpa using hp y hy) (by simpa using e2)⟩
theorem zIj (l:List Rq) (id:Int) (w:List (Int×Int)) (now:Int) (hv:ZN l) (hw:w.length<=1000) (n0:0<=now) (n1:now<=1073741824):
  zO 223 [zD yL l,iA id,zD wnA w,iA now] [] (.tup [zD yL (if aK l id w now=0 then MS l id w now else []),iA (aK l id w now)]) []:=by
 have h4:=hv.n4;have hlw:=zA wnA w;have c1:=UT l 4 hv zB;have c2:=zCw now;have c3:=OH l id zB;rw[zYa ⟨n0,n1⟩]at c2
 cases hh:gY l id with
 |false=>
  have hx:=ZZ (p:=λx:Rq=>x.id==id) (l:=l) (by simpa [gY]using hh);rw[hx]at c3;have e:aK l id w now=12:=zX2 (by rw[hh];decide);rw[e,zX2 zV];refine eM call223 λF hF=>?_
  refine yR (fQ c1 c2 c3) ?_;exact zJ
 |true=>
 obtain⟨pre,x,post,hL,hx,_,hf,hix⟩:=LQ hh;rw[hix]at c3;have hup:=zCm (w:=w) (now:=now) hL hv hx
 have e0:aK l id w now=if w.length=x.legs.length/\EL x.legs w now=true then 0 else 8:=by unfold aK;rw[zX3 hh,hf]
 have hlen:l.length=pre.length+1+post.length:=by rw[hL];simp;omega
 have hxl:=hv.lg3 (r:=x) (by rw[hL];simp);have c4:=EK pre x post l hL zB (λr hr=>by have:=hv.lg3 hr;omega);have hcl:=YZ pre x post 1101;have hfr:=λh=>UN h pre x post true
 have hat:(ZL pre x post 1101)[((pre.length:Int)).toNat]? =some (qU x 1101):=by unfold ZL;simp
 have hfin:=λh gs=>zN6 (h:=h) (pre:=pre) (post:=post) (x:=x) (b:=true) (gs:=gs)
 have hlx:=zA xW x.legs;generalize ZL pre x post 1101=cs at *;clear hL hv hix hf hh hx;by_cases hwl:w.length=x.legs.length
 case neg=>
  rw[zX2 (λh=>hwl h.1)]at e0;rw[e0,zX2 zV];refine eM call223 λF hF=>?_
  refine yR (XU c1 c2 c3 c4) ?_;exact zJ
 refine eM call223 λF hF=>?_
 refine yR (XU c1 c2 c3 c4) ?_;refine vH (λn st=>∃i,n+i=x.legs.length/\(∀j,j<i->okW now (x.legs.getD j default) (w.getD j default)=true)/\st=(⟨[(44,iA i),(3,iA now),(11,.ref 1001 0 cs.length),(12,.ref 1101 0 (x.legs.map xW).length),(42,zD wnA w),(43,iA (w.map wnA).length)],[(1001,.arr 5 cs ⟨true,true⟩),(1101,.arr 5 ((BN x.legs w now i).map xW) false)]⟩:St)) x.legs.length [1001,1101] [44,3,11,12,42,43] Z ⟨0,zB,λj hj=>absurd hj (yAp _),?_⟩ ?_
 ·rw[zWa];refine zY3 (St.mk _) ?_
  show [(1001,kI [1001,1101] _ (.arr 5 cs ⟨true,true⟩)),(1101,eE x)]=_
  rw[hfr];rfl
 rintro n st ⟨i,hi,hok,rfl⟩;by_cases hil:i<x.legs.length
 ·have hul:=zCl (i:=i) (now:=now) hwl zB;have hlu:=zA xW (BN x.legs w now i);have hy2:=zM wnA w i zB;have hy:=zSz (now:=now) hwl hil;have hst:=zN3 (now:=now) hwl hil;have c5:=zCu (x.legs.getD i default).jn (x.legs.getD i default).ph (w.getD i default).1 (w.getD i default).2 now
  cases hb:okW now (x.legs.getD i default) (w.getD i default)with
  |false=>
   have hno:=zS0 hwl hil hb;rw[zX2 (λh=>by rw[hno]at h;cases h.2)]at e0;rw[e0,zX2 zV];unfold okW at hb;unfold mwF at c5;rw[hb,zX2 zYp,zX2 zYp]at c5;clear hok hfin hup hno hst;generalize x.legs.getD i default=g at *;generalize w.getD i default=q at *;generalize (BN x.legs w now i).map xW=ys at *;refine zY c5 ?_;exact zJ
  | true=>
   have hok2:∀j,j<i+1->okW now (x.legs.getD j default) (w.getD j default)=true:=λj hj=>by
    by_cases hji:j=i
    ·rw[hji];exact hb
    ·exact hok j zB
   unfold okW at hb;unfold mwF at c5;rw[hb,zX3 Z,zX3 Z]at c5;have hset:∀y:AV,(((BN x.legs w now i).map xW).set i y)[i]? =some y:=λy=>zZu zB
   clear hok hfin hup e0 hb;generalize x.legs.getD i default=g at *;generalize w.getD i default=q at *;generalize (BN x.legs w now i).map xW=ys at*
   (have zc1:=c5;(repeat' (first|refine WTR ?_|apply xL|apply wB|intro hc|(refine zE ?_;first|(refine gC ?_;refine cH tok Z Z Z (hset _) Z Z Z Z Z Z Z Z ?_)|refine SM ?_)|refine SB ?_|fail))<;>clear zc1)
   refine⟨n-1,zB,i+1,zB,hok2,?_⟩;refine zY3 (St.mk _) ?_
   show [(1001,kI [1001,1101] _ (.arr 5 cs ⟨true,true⟩)),(1101,.arr 5 ((ys.set i _).set i (xW (nwL now g q))) false)]=_
   rw[hfr,yCy,hst]
 ·obtain rfl:i=x.legs.length:=by omega
  have hul:=zCl (i:=x.legs.length) (now:=now) hwl (zX7 _);have hyes:=zN5 hwl hok;rw[zX3 ⟨hwl,hyes⟩]at e0;rw[e0,zX3 Z,hup];rw[zN4 hwl]at hul⊢;generalize x.legs.zipWith (nwL now) w=gs at *;refine WW ?_;refine zI [] Z Z ?_ Z
  show AV.tup [VE (wQ [] _ (.ref 1001 0 cs.length)),iA 0]=_
  rw[hfin _ gs Z Z hul];rfl
def XT:List Int->Nat->Int->Int×Int×Int
 | [],_,_=>(0,0,6)
 |x::r,i,n=>if i=5 then(0,0,6)else if 128<=x then XT r (i+1) (n+x.tmod 128*128 ^ i)else if 4294967295<n+x.tmod 128*128 ^ i∨(0<i/\x=0)then(0,0,6)else(n+x.tmod 128*128 ^ i,i+1,0)
def bJ (b:List Int):Int×Int×Int:=XT b 0 0
def szF (n:Int):Int:=if n<0∨4294967295<n then 0 else if n<128 then 1 else if n<16384 then 2 else if n<2097152 then 3 else if n<268435456 then 4 else 5
def lgF (m:Int):Int:=if m<128 then 0 else if m<16384 then 1 else if m<2097152 then 2 else if m<268435456 then 3 else 4
def zIk {n:Int} (h0:0<=n) (h1:n<=4294967295):szF n=1+lgF n:=by
 unfold szF lgF;rw[zX2 zB]
 repeat' split
 all_goals omega
def zN7 {m:Int} (h0:128<=m) (h1:m<=4294967295):lgF m=1+lgF (m/128):=by
 unfold lgF;rw[zX2 zB]
 repeat' split
 all_goals omega
def zS1 {m:Int} (h:m<128):lgF m=0:=zX3 h
def EM (n:Int):zO 181 [iA n] [] (iA (szF n)) []:=by
 by_cases h:n<0∨4294967295<n
 ·have e:szF n=0:=zX3 h;rw[e];by_cases h1:n<0
  ·(refine eM call181 λF hF=>?_)
   refine WW ?_;exact zJ
  ·have h2:=h.resolve_left h1;refine eM call181 λF hF=>?_
   refine WW ?_;exact zJ
 have h1:0<=n:=by omega
 have h2:n<=4294967295:=by omega
 rw[zIk h1 h2];generalize hs:1+lgF n=s;refine eM call181 λF hF=>?_
 refine WW ?_;refine gM (5) [] [] [] [0,3] Z (λzn T U zs=>∃(m:Int) (k:Int),(0<=m/\m<=4294967295/\k=6-zn/\1<=k/\k<=5/\(k=2->m<=33554431)/\(k=3->m<=262143)/\(k=4->m<=2047)/\(k=5->m<=15)/\s=k+lgF m)/\zs=⟨(0,iA m)::(3,iA k)::T,U⟩) ?_;(conv=>whnf);refine⟨?_,?_⟩
 ·exact⟨n,1,⟨h1,h2,zB,zB,zB,zB,zB,zB,zB,hs.symm⟩,rfl⟩
 ·rintro zn st ⟨m,k,⟨q0,q1,q2,q3,q4,q5,q6,q7,q8,q9⟩,rfl⟩;by_cases hm:128<=m
  ·have hd:=zN7 hm q1;have hmd:m.tdiv 128=m/128:=zZw q0;have hir:YH .i64 (m.tdiv 128):=⟨zB,zB⟩;refine WW ?_;refine⟨zn-1,zB,m.tdiv 128,k+1,⟨zB,zB,zB,zB,zB,zB,zB,zB,zB,by rw[hmd];omega⟩,rfl⟩
  ·rw[zS1 zB]at q9;obtain rfl:s=k:=by omega
   refine WW ?_;exact zJ
def zN8 {i:Nat} (h:i<=4):((128:Int) ^ i=1/\i=0)∨((128:Int) ^ i=128/\i=1)∨((128:Int) ^ i=16384/\i=2)∨((128:Int) ^ i=2097152/\i=3)∨((128:Int) ^ i=268435456/\i=4):=by
 obtain rfl|rfl|rfl|rfl|rfl:i=0∨i=1∨i=2∨i=3∨i=4:=by omega
 all_goals simp
def zWb {i:Nat} {n x:Int} (h:i<=4) (h0:0<=n) (h1:n<128 ^ i) (x0:0<=x) (x1:x<128):(szF (n+x*128 ^ i)=(i:Int)+1)↔¬(4294967295<n+x*128 ^ i∨(0<i/\x=0)):=by
 rcases zN8 h with⟨e,rfl⟩|⟨e,rfl⟩|⟨e,rfl⟩|⟨e,rfl⟩|⟨e,rfl⟩
 all_goals rw[e]at h1⊢
 all_goals unfold szF
 all_goals repeat' split
 all_goals omega
def zIl {x P:Int} (x0:0<=x) (x1:x<128) (P0:1<=P) (P1:P<=268435456):0<=x*P/\x*P<=127*P:=by
 refine⟨Int.mul_nonneg x0 zB,Int.mul_le_mul_of_nonneg_right zB zB⟩
theorem zWc (b:List Int) (hb:BY b) (hn:b.length<=100000):zO 141 [zD yA b] [] (.tup [iA (bJ b).1,iA (bJ b).2.1,iA (bJ b).2.2]) []:=by
 have hl:=zA yA b;refine eM call141 λF hF=>?_
 refine WW ?_;refine gM (6) [] [] [0] [5,6,7,0] Z (λzn T U zs=>∃(i:Nat) (n:Int),(zn+i=6/\i<=5/\i<=b.length/\0<=n/\n<128 ^ i/\bJ b=XT (b.drop i) i n)/\zs=⟨(5,iA n)::(6,iA (128 ^ i:Int))::(7,iA i)::T,U⟩) ?_;(conv=>whnf);refine⟨?_,?_⟩
 ·exact⟨0,0,⟨rfl,zB,zB,zB,by decide,rfl⟩,rfl⟩
 ·rintro zn st ⟨i,n,⟨q0,q1,q2,q3,q4,q5⟩,rfl⟩;rw[q5];clear q5;by_cases hib:i<b.length
  case neg=>
   have e:b.drop i=[]:=yBq zB;rw[e]
   show uQ _ _ _ _ _ (aN (inB 0 (XW _ _ _ _ (Fin _ _ [] (.tup [iA 0,iA 0,iA 6]) []))) _)
   generalize (128 ^ i:Int)=Pw at *;refine WW ?_;exact zJ
  have hx:=hb (b.getD i default) (by simp[List.getD,hib]);have hy:=zM yA b i hib;have e:b.drop i=b.getD i default::b.drop (i+1):=by rw[yAe hib];simp[List.getD,hib]
  rw[e];clear e;generalize hr:b.drop (i+1)=r at *;generalize hx':b.getD i default=x at *;by_cases hi5:i=5
  ·subst hi5
   show uQ _ _ _ _ _ (aN (inB 0 (XW _ _ _ _ (Fin _ _ [] (.tup [iA 0,iA 0,iA 6]) []))) _)
   generalize (128 ^ 5:Int)=Pw at *;refine WW ?_;exact zJ
  have ht:x.tmod 128=x % 128:=zZq hx.1;have hPb:=zN8 (i:=i) zB;have hPw:1<=(128:Int) ^ i/\(128:Int) ^ i<=268435456:=by omega
  have hz:=zIl (x:=x.tmod 128) (P:=128 ^ i) zB zB zB zB;have hso:=zWb (i:=i) (n:=n) (x:=x.tmod 128) zB q3 q4 zB zB;have hP1:(128:Int) ^ (i+1)=128 ^ i*128:=rfl;by_cases h128:128<=x
  ·have e:XT (x::r) i n=XT r (i+1) (n+x.tmod 128*128 ^ i):=by rw[XT,zX2 hi5,zX3 h128]
   rw[e];clear hso hPb hx';generalize (128:Int) ^ i=Pw at *;have hir:YH .i64 (x.tmod 128*Pw):=by generalize x.tmod 128*Pw=Z' at *;exact⟨zB,zB⟩
   have hir2:YH .i64 (n+x.tmod 128*Pw):=by generalize x.tmod 128*Pw=Z' at *;exact⟨zB,zB⟩
   have hm1:0<=n+x.tmod 128*Pw/\n+x.tmod 128*Pw<Pw*128:=by generalize x.tmod 128*Pw=Z' at *;omega
   (repeat' (first|refine uJ ?_|apply xL|apply wB|intro hc|(refine zE ?_;first|(refine xM ?_;first|refine zP (jZ Z Z hir) Z ?_|refine zP (jY Z Z hir2) Z ?_)|refine SM ?_)|fail))
   refine⟨zn-1,zB,i+1,n+x.tmod 128*Pw,⟨zB,zB,zB,hm1.1,by rw[hP1];exact hm1.2,by rw[hr]⟩,?_⟩;rw[hP1];rfl
  ·have hxm:x.tmod 128=x:=by omega
   have e:XT (x::r) i n=if 4294967295<n+x.tmod 128*128 ^ i∨(0<i/\x=0)then(0,0,6)else(n+x.tmod 128*128 ^ i,(i:Int)+1,0):=by rw[XT,zX2 hi5,zX2 h128]
   have c:=EM (n+x.tmod 128*128 ^ i);rw[e];rw[hxm]at hso;rw[hxm]at c hz⊢;clear hPb hx' e;generalize (128:Int) ^ i=Pw at *;have hir:YH .i64 (x.tmod 128*Pw):=by rw[hxm];generalize x*Pw=Z' at *;exact⟨zB,zB⟩
   have hir2:YH .i64 (n+x.tmod 128*Pw):=by rw[hxm];generalize x*Pw=Z' at *;exact⟨zB,zB⟩
   by_cases hbad:4294967295<n+x*Pw∨(0<i/\x=0)
   ·have hne:szF (n+x*Pw)≠(i:Int)+1:=λh=>hso.1 h hbad
    rw[zX3 hbad];clear hso hbad;generalize szF (n+x*Pw)=s at *;rw[<-hxm]at c hz
    (have zc1:=c;(repeat' (first|refine uJ ?_|apply xL|apply wB|intro hc|(refine zE ?_;first|(refine xM ?_;first|refine zP (jZ Z Z hir) Z ?_|refine zP (jY Z Z hir2) Z ?_)|refine SM ?_)|fail))<;>clear zc1)
    exact zJ
   ·have heq:=hso.2 hbad;rw[heq]at c;rw[zX2 hbad];clear hso hbad heq;rw[<-hxm]at c hz⊢
    (have zc1:=c;(repeat' (first|refine uJ ?_|apply xL|apply wB|intro hc|(refine zE ?_;first|(refine xM ?_;first|refine zP (jZ Z Z hir) Z ?_|refine zP (jY Z Z hir2) Z ?_)|refine SM ?_)|fail))<;>clear zc1)
    exact zJ
section
variable {P:Program} {tm:List (Nat×AV)} {h:List (Nat×xN)} {tx ty:Nat} {x y:Operand}
def zS2:∀k:_root_.Fin 256,IntKind.u8.wrap (BitVec.ofInt IntKind.u8.bits (k.val:Int) &&& BitVec.ofInt IntKind.u8.bits 127).toNat=((k.val:Int)).tmod 128:=by decide +kernel
def ZY {m:Int} (hx:yM (zG tm) x= .s (.int .u8 m)) (hy:yM (zG tm) y= .s (.int .u8 127)) (h0:0<=m/\m<256):wV P ⟨tm,h⟩ (.binOp .and tx x y ty) (.s (.int .u8 (m.tmod 128))) [] [] []:=by
 have e:=zS2 ⟨m.toNat,zB⟩;simp only[show((m.toNat:Nat):Int)=m by omega]at e;rw[<-e];exact PF hx hy
end
def zN9 (a b:Nat) (ha:a<2 ^ 60) (hb:b<2 ^ 60):orI a b=((a ||| b:Nat):Int):=by
 have h:=yDo ha hb;unfold orI;rw[show BitVec.ofInt IntKind.i64.bits (a:Int)=BitVec.ofNat IntKind.i64.bits a from yBk ..];rw[show BitVec.ofInt IntKind.i64.bits (b:Int)=BitVec.ofNat IntKind.i64.bits b from yBk ..];rw[yDt,yBg,yBg,yAs (zZe ha (yCb zV zV)),yAs (zZe hb (yCb zV zV))];refine kV ⟨?_,?_⟩
 ·show(-9223372036854775808:Int)<=_
  omega
 ·show _<=(9223372036854775807:Int)
  have:(2:Nat) ^ 60=1152921504606846976:=rfl;omega
def zS3 {i:Nat} {n y:Int} (h:i<=4) (h0:0<=n) (h1:n<128 ^ i) (y0:0<=y) (y1:y<128):orI n (IntKind.i64.wrap (y*2 ^ (min ((7*(i:Int)).toNat) IntKind.i64.bits)))=n+y*128 ^ i:=by
 have hb:IntKind.i64.bits=64:=rfl;have e1:min ((7*(i:Int)).toNat) 64=7*i:=by omega
 have e2:(2:Int) ^ (7*i)=128 ^ i:=by rw[Int.pow_mul];rfl
 rw[hb,e1,e2];have hP:1<=(128:Int) ^ i/\(128:Int) ^ i<=268435456:=by have:=zN8 h;omega
 have hz:=zIl y0 y1 hP.1 hP.2;rw[show IntKind.i64.wrap (y*128 ^ i)=y*128 ^ i from kV (k:= .i64) (by unfold YH;generalize y*128 ^ i=Z' at *;generalize (128:Int) ^ i=Pw at *;omega)];obtain⟨a,rfl⟩:=zZz h0;obtain⟨c,rfl⟩:=zZz y0;have hPn:(128:Int) ^ i=((128 ^ i:Nat):Int):=by simp
 rw[hPn]at h1 hz hP⊢;have ha:a<128 ^ i:=by omega
 rw[show((c:Int)*((128 ^ i:Nat):Int))=((c*128 ^ i:Nat):Int) by simp]at hz⊢;rw[zN9 a (c*128 ^ i) (by have:(2:Nat) ^ 60=1152921504606846976:=rfl;omega) (by have:(2:Nat) ^ 60=1152921504606846976:=rfl;omega)];have e3:(128:Nat) ^ i=2 ^ (7*i):=by rw[Nat.pow_mul]
 rw[e3]at ha⊢;have:=yBz ha c;rw[yC6]at this;rw[Nat.or_comm,<-this];omega
theorem zWd (b:List Int) (hb:BY b) (hn:b.length<=100000):zO 140 [zD yA b] [] (.tup [iA (bJ b).1,iA (bJ b).2.1,iA (bJ b).2.2]) []:=by
 have hl:=zA yA b;refine eM call140 λF hF=>?_
 refine WW ?_;refine kN (b) [] [] [8,9] [5,10,8,9] Z (λi pre T U zs=>∃n:Int,(0<=n/\n<128 ^ i/\i<=5/\∀post,b=pre++post->bJ b=XT post i n)/\zs=⟨(5,iA n)::(10,iA i)::T,U⟩) ?_;(conv=>whnf);refine⟨?_,?_,?_⟩
 ·exact⟨0,⟨zB,by decide,zB,λpost h=>by rw[h];rfl⟩,rfl⟩
 ·rintro i pre x r st hx hi ⟨n,⟨q0,q1,q2,q3⟩,rfl⟩;have hy:=xQ yA hx hi;have hlt:=yW hx hi;have hxb:=hb x (vF hx);rw[q3 _ hx]
  have q4:∀post,b=pre++[x]++post->post=r:=λpost h=>by
   rw[hx,zYw]at h;simpa using h.symm
  clear q3 hx;by_cases hi5:i=5
  ·subst hi5
   show uQ _ _ _ _ _ (aN (inB 0 (XW _ _ _ _ (Fin _ _ [] (.tup [iA 0,iA 0,iA 6]) []))) _)
   clear q4;refine WW ?_;exact zJ
  have ht:x.tmod 128=x % 128:=zZq hxb.1;have hPb:=zN8 (i:=i) zB;have hPw:1<=(128:Int) ^ i/\(128:Int) ^ i<=268435456:=by omega
  have hz:=zIl (x:=x.tmod 128) (P:=128 ^ i) zB zB zB zB;have hE:=zS3 (i:=i) (n:=n) (y:=x.tmod 128) zB q0 q1 zB zB;have hP1:(128:Int) ^ (i+1)=128 ^ i*128:=rfl;by_cases h128:128<=x
  ·have e:XT (x::r) i n=XT r (i+1) (n+x.tmod 128*128 ^ i):=by rw[XT,zX2 hi5,zX3 h128]
   rw[e]
   have hm1:0<=n+x.tmod 128*128 ^ i/\n+x.tmod 128*128 ^ i<128 ^ (i+1):=by
    rw[hP1];generalize x.tmod 128*128 ^ i=Z' at *;omega
   clear hPb e hz;generalize n+x.tmod 128*128 ^ i=M at*
   (repeat' (first|refine uJ ?_|apply xL|apply wB|intro hc|(refine zE ?_;first|(refine xM ?_;refine zP (ZY Z Z hxb) Z ?_)|refine SM ?_)|fail))
   refine⟨M,⟨hm1.1,hm1.2,zB,λpost h=>by rw[q4 post h]⟩,?_⟩;rw[<-hE];rfl
  ·have e:XT (x::r) i n=if 4294967295<n+x.tmod 128*128 ^ i∨(0<i/\x=0)then(0,0,6)else(n+x.tmod 128*128 ^ i,(i:Int)+1,0):=by rw[XT,zX2 hi5,zX2 h128]
   rw[e]
   have hm1:0<=n+x.tmod 128*128 ^ i/\n+x.tmod 128*128 ^ i<128 ^ (i+1):=by
    rw[hP1];generalize x.tmod 128*128 ^ i=Z' at *;omega
   clear hPb e hz q4 hP1;generalize n+x.tmod 128*128 ^ i=M at *;by_cases hbad:4294967295<M∨(0<i/\x=0)
   ·rw[zX3 hbad];by_cases hM:4294967295<M
    ·clear hbad
     (repeat' (first|refine uJ ?_|apply xL|apply wB|intro hc|(refine zE ?_;first|(refine xM ?_;refine zP (ZY Z Z hxb) Z ?_)|refine SM ?_)|fail))
     exact zJ
    ·obtain⟨h1,h2⟩:=hbad.resolve_left hM
     (repeat' (first|refine uJ ?_|apply xL|apply wB|intro hc|(refine zE ?_;first|(refine xM ?_;refine zP (ZY Z Z hxb) Z ?_)|refine SM ?_)|fail))
     exact zJ
   ·rw[zX2 hbad];by_cases hi0:0<i
    ·have hx0:x≠0:=λh=>hbad (.inr ⟨hi0,h⟩)
     (repeat' (first|refine uJ ?_|apply xL|apply wB|intro hc|(refine zE ?_;first|(refine xM ?_;refine zP (ZY Z Z hxb) Z ?_)|refine SM ?_)|fail))
     rw[<-hE];exact zJ
    ·(repeat' (first|refine uJ ?_|apply xL|apply wB|intro hc|(refine zE ?_;first|(refine xM ?_;refine zP (ZY Z Z hxb) Z ?_)|refine SM ?_)|fail))
     rw[<-hE];exact zJ
 ·rintro st ⟨n,⟨q0,q1,q2,q3⟩,rfl⟩;rw[q3 [] zW]
  show uQ _ _ _ _ _ (aN (inB 0 (XW _ _ _ _ (Fin _ _ [] (.tup [iA 0,iA 0,iA 6]) []))) _)
  refine WW ?_;exact zJ
theorem zIm:∀(r:List Int) (i:Nat) (n:Int),BY r->0<=n->(XT r i n=(0,0,6))∨((XT r i n).2.2=0/\0<=(XT r i n).1/\(XT r i n).1<=4294967295/\(i:Int)+1<=(XT r i n).2.1/\(XT r i n).2.1<=i+r.length)
 | [],i,n,_,_=> .inl Z
 | x::r,i,n,hb,hn=>by
  have hx:=hb x zW
  have hp:0<=n+x.tmod 128*128 ^ i:=by
   have h1:0<=x.tmod 128:=by rw[zZq hx.1];omega
   have h2:(0:Int)<=128 ^ i:=Int.pow_nonneg zB;have:=Int.mul_nonneg h1 h2;omega
  rw[XT];by_cases h5:i=5
  ·exact .inl (zX3 h5)
  rw[zX2 h5];by_cases h1:128<=x
  ·rw[zX3 h1]
   rcases zIm r (i+1) (n+x.tmod 128*128 ^ i) (λy hy=>hb y (by simp[hy])) hp with h|⟨a,b,c,d,e⟩
   ·exact .inl h
   ·refine .inr ⟨a,b,c,zB,?_⟩;rw[zYh];omega
  ·rw[zX2 h1];by_cases h2:4294967295<n+x.tmod 128*128 ^ i∨(0<i/\x=0)
   ·exact .inl (zX3 h2)
   ·rw[zX2 h2];refine .inr ⟨rfl,hp,zB,yAc _,?_⟩
    show(i:Int)+1<=_
    rw[zYh];omega
def JY (b:List Int) (hb:BY b):bJ b=(0,0,6)∨((bJ b).2.2=0/\0<=(bJ b).1/\(bJ b).1<=4294967295/\1<=(bJ b).2.1/\(bJ b).2.1<=b.length):=by
 have:=zIm b 0 0 hb (yAc _)
 rcases this with h|⟨a,b,c,d,e⟩
 ·exact .inl h
 ·exact .inr ⟨a,b,c,by have:(0:Int)+1<=(bJ _).2.1:=d;omega,by have:(bJ _).2.1<=(0:Int)+_:=e;omega⟩
def aH:Nat->List Int->Option (List Int×List Int)
 |0,b=>some ([],b)
 |n+1,b=>if(bJ b).2.2=0 then(match aH n (b.drop (bJ b).2.1.toNat)with|none=>none|some (l,r)=>some ((bJ b).1::l,r))else none
def nbG (l:List Int):Option (List Int×List Int)->Option (List Int×List Int)
 |none=>none
 |some (k,r)=>some (l++k,r)
def JZ (o:Option (List Int×List Int)):nbG [] o=o:=by
 cases o with
 |none=>rfl
 |some p=>rfl
def AZ {l b:List Int} {n:Nat} (h:(bJ b).2.2≠0):nbG l (aH (n+1) b)=none:=by
 rw[aH,zX2 h];rfl
def zAa {l b:List Int} {n:Nat} (h:(bJ b).2.2=0):nbG l (aH (n+1) b)=nbG (l++[(bJ b).1]) (aH n (b.drop (bJ b).2.1.toNat)):=by
 rw[aH,zX3 h]
 cases aH n (b.drop (bJ b).2.1.toNat)with
 |none=>rfl
 |some p=>obtain⟨k,r⟩:=p;simp[nbG]
def ME:Option (List Int×List Int)->AV
 |none=> .tup [zD iA [],zD yA [],bA false]
 |some (l,r)=> .tup [zD iA l,zD yA r,bA true]
def XA (b:List Int) (n:Nat) (hb:BY b) (hbn:b.length<=100000) (hn:n<=1000):zO 104 [zD yA b,iA n] [] (ME (aH n b)) []:=by
 refine eM call104 λF hF=>?_
 refine WW ?_;refine qH 12 Z ?_;refine xT (n) [12] [] [13] [0,7,14,13] Z (λi T U zs=>∃acc c,(acc.length=i/\BY c/\c.length<=100000/\aH n b=nbG acc (aH (n-i) c))/\zs=⟨(0,zD yA c)::(7,.ref 12 0 (acc.map iA).length)::(14,iA i)::T,(12,.arr 1 (acc.map iA) true)::U⟩) ?_;(conv=>whnf);refine⟨?_,?_,?_⟩
 ·exact⟨[],b,⟨rfl,hb,hbn,by rw[JZ];rfl⟩,rfl⟩
 ·rintro i st hi ⟨acc,c,⟨q0,q1,q2,q3⟩,rfl⟩;have hd:=zWd c q1 q2;have hl:=zA yA c;have hla:=zA iA acc;rw[show n-i=(n-(i+1))+1 by omega]at q3
  rcases JY c q1 with h|⟨h1,h2,h3,h4,h5⟩
  ·rw[q3,AZ (by rw[h];decide)];rw[h]at hd;clear q3 h
   show uQ _ _ _ _ _ (aN (inB 0 (XW _ _ _ _ (Fin _ _ [] (.tup [zD iA [],zD yA [],bA false]) []))) _)
   refine zY hd ?_;exact zJ
  ·rw[zAa h1]at q3;rw[h1]at hd;have hbd:BY (c.drop (bJ c).2.1.toNat):=λy hy=>q1 y (zY1 hy)
   have hcd:(c.drop (bJ c).2.1.toNat).length<=100000:=by rw[zYv];omega
   clear h1;rw[q3];generalize (bJ c).1=v at *;generalize (bJ c).2.1=k at *;refine zY hd ?_;refine⟨acc++[v],c.drop k.toNat,⟨by simp[q0],hbd,hcd,rfl⟩,?_⟩;rw[zYd];rfl
 ·rintro st ⟨acc,c,⟨q0,q1,q2,q3⟩,rfl⟩;rw[q3,yAa]
  show uQ _ _ _ _ _ (aN (inB 0 (XW _ _ _ _ (Fin _ _ [] (.tup [zD iA (acc++[]),zD yA c,bA true]) []))) _)
  rw[zY4];refine WW ?_;exact zI [] Z Z (zY3 (λz=>AV.tup [z,zD yA c,bA true]) (cY _ _)) Z
def fF (b:List Int) (n:Nat) (hb:BY b) (hbn:b.length<=100000) (hn:n<=1000):zO 108 [zD yA b,iA n] [] (ME (aH n b)) []:=by
 refine eM call108 λF hF=>?_
 refine WW ?_;refine xA 7 1001 1 Z Z Z ?_;refine xT (n) [1001] [] [11] [0,7,12,11] Z (λi T U zs=>∃acc c,(acc.length=i/\BY c/\c.length<=100000/\aH n b=nbG acc (aH (n-i) c))/\zs=⟨(0,zD yA c)::(7,.ref 1001 0 (acc.map iA).length)::(12,iA i)::T,(1001,.arr 1 (acc.map iA) true)::U⟩) ?_;(conv=>whnf);refine⟨?_,?_,?_⟩
 ·exact⟨[],b,⟨rfl,hb,hbn,by rw[JZ];rfl⟩,rfl⟩
 ·rintro i st hi ⟨acc,c,⟨q0,q1,q2,q3⟩,rfl⟩;have hd:=zWc c q1 q2;have hl:=zA yA c;have hla:=zA iA acc;rw[show n-i=(n-(i+1))+1 by omega]at q3
  rcases JY c q1 with h|⟨h1,h2,h3,h4,h5⟩
  ·rw[q3,AZ (by rw[h];decide)];rw[h]at hd;clear q3 h
   show uQ _ _ _ _ _ (aN (inB 0 (XW _ _ _ _ (Fin _ _ [] (.tup [zD iA [],zD yA [],bA false]) []))) _)
   refine zY hd ?_;exact zJ
  ·rw[zAa h1]at q3;rw[h1]at hd;have hbd:BY (c.drop (bJ c).2.1.toNat):=λy hy=>q1 y (zY1 hy)
   have hcd:(c.drop (bJ c).2.1.toNat).length<=100000:=by rw[zYv];omega
   clear h1;rw[q3];generalize (bJ c).1=v at *;generalize (bJ c).2.1=k at *;refine zY hd ?_;refine⟨acc++[v],c.drop k.toNat,⟨by simp[q0],hbd,hcd,rfl⟩,?_⟩;rw[zYd];rfl
 ·rintro st ⟨acc,c,⟨q0,q1,q2,q3⟩,rfl⟩;rw[q3,yAa]
  show uQ _ _ _ _ _ (aN (inB 0 (XW _ _ _ _ (Fin _ _ [] (.tup [zD iA (acc++[]),zD yA c,bA true]) []))) _)
  rw[zY4];refine WW ?_;exact zI [] Z Z (zY3 (λz=>AV.tup [z,zD yA c,bA true]) (cY _ _)) Z
end Av
end Go.Proofs.YteajjdidebfcjaaGreat
