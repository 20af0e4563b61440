/- Part 9. -/
import Derived.Test.YteajjdidebfcjaaGreatU08
import Derived.WalkKit
import Derived.ProofKit
namespace Go.Proofs.YteajjdidebfcjaaGreat
namespace Av
open Tryz
set_option linter.all false
set_option maxRecDepth 4000
set_option maxHeartbeats 2000000
def tkN (a:Ag):List Tk:=⟨true,a.sec,-1,a.rights,a.cls,0⟩::List.replicate 7 frT
def zT:AV:= .agg [.s (.bool false),.s (.slice none 0 0),.s (.int .i64 0),.s (.int .i64 0),.s (.int .i64 0),.s (.int .i64 0)]
def AP (i:Nat):List AV:=List.replicate i (xB frT)++List.replicate (8-i) zT
def zTw (i:Nat) (h:i<8):(AP i)[i]? =some zT:=by
 unfold AP;rw[yA4 zS];simp[show 0<8-i by omega]
def zOt (i:Nat) (h:i<8):(AP i).set i (xB frT)=AP (i+1):=by
 unfold AP;rw[show 8-i=(8-(i+1))+1 by omega,yEc (n:=8-(i+1)),yDk _ _ zS,yB2,yCm,yEu,yFs (n:=i),yA6];rfl
def zTx (a:Ag) (hs:a.sec.length<=1000000):zN 124 [wK a] [] (zC xB (tkN a)) []:=by
 have cf:=zAy;have cs:=wL a.sec zB;obtain⟨N,hN⟩:∃N:Nat,N=8:=⟨8,rfl⟩;refine eM call124 λF hF=>?_
 refine WW ?_;refine zO (N) [5,1] [1] [1] [8,7,3,1] Z (λi T U=>⟨(8,iA i)::(7,iA N)::(3,.ref 5 0 N)::T,(5,.arr 6 (AP i) false)::U⟩) ?_;(conv=>whnf);refine⟨by(rw[hN];rfl),?_,?_⟩
 ·intro i hi;have hy:=zTw i zB;have e:=zOt i zB;have hln:(AP i).length=8:=by unfold AP;simp;omega
  generalize AP i=xs at *;generalize AP (i+1)=ys at *;subst e;unfold zT at hy;refine zV cf ?_;rfl
 ·rw[show AP N=AP 8 by rw[hN]];have hy:(AP 8)[0]? =some (xB frT):=rfl;have e8:(AP 8).set 0 (xB ⟨true,a.sec,-1,a.rights,a.cls,0⟩)=(tkN a).map xB:=rfl;have hln:(AP 8).length=8:=rfl;generalize AP 8=xs at *;unfold xB at hy;refine zV cs ?_;exact zH [] Z Z (yBa (AV.sl false) ((yAo wF).trans e8)) Z
def EF (n:Int) (a:Ag):Rg:=⟨n,a,tkN a,[],⟨a.burst,a.rate,a.burst⟩⟩
def zTy (n:Int) (a:Ag) (hs:a.sec.length<=1000000) (hl:a.lim.length<=1000000):zN 92 [iA n,wK a] [] (qG (EF n a)) []:=by
 have c1:=EY a hs hl;have c2:=zTx a hs;have c3:=zUm a.rate a.burst;unfold EF;generalize tkN a=tk at *;refine eM call92 λF hF=>?_
 refine yQ (gG c1 c2 c3) ?_;exact zJ
def ZN (g s:Int) (l:List Int) (hl:l.length<=1000000) (g0:0<=g) (g1:g<256) (s0:0<=s) (s1:s<256):zN 51 [iA g,iA s,zC yA l] [] (zC yA (g::s::l)) []:=by
 have hll:=zA yA l;refine eM call51 λF hF=>?_
 refine WW ?_;exact zH [] Z Z (yBa (AV.sl false) (yAo zS)) Z
def zTz (a b:List Int):zN 233 [zC yA a,zC yA b] [] (bA (eqY a b)) []:=by
 refine eM call233 λF hF=>?_
 refine WW ?_;exact zJ
def zHz (l:List Tk) (b:List Int):Tk:=l.getD (b.getD 1 default).toNat default
def ckB (l:List Tk) (g:Int) (b:List Int) (k now:Int):Bool:=decide ((b.length:Int)=10/\b.getD 0 default=g)&&eV l (b.getD 1 default)&&(eqY (b.drop 2) (zHz l b).sec&& !exF (zHz l b) now&&peF (zHz l b).rights k)
def zOu (l:List Tk) (g:Int) (b:List Int) (k now:Int) (hb:BY b):zN 218 [zC xB l,iA g,zC yA b,iA k,iA now] [] (.tup [iA (if ckB l g b k now=true then b.getD 1 default else 0),iA (if ckB l g b k now=true then 0 else 9)]) []:=by
 have hll:=zA yA b;have hlt:=zA xB l;by_cases h1:(b.length:Int)=10
 case neg=>
  have e:ckB l g b k now=false:=by unfold ckB;rw[yAl (λh=>h1 h.1)];rfl
  rw[e];refine eM call218 λF hF=>?_
  refine WW ?_;exact zJ
 have hy0:=yN yA b 0 zB zB;have hy1:=yN yA b 1 zB zB;have b0:0<=b.getD 0 default/\b.getD 0 default<256:=hb _ zSm;have b1:0<=b.getD 1 default/\b.getD 1 default<256:=hb _ zSm
 change (b.map yA)[0]? =some (yA (b.getD 0 default))at hy0
 change (b.map yA)[1]? =some (yA (b.getD 1 default))at hy1
 unfold ckB zHz;generalize b.getD 0 default=x0 at *;generalize b.getD 1 default=x1 at *;by_cases h2:x0=g
 case neg=>
  rw[yAl (λh=>h2 h.2)];refine eM call218 λF hF=>?_
  refine WW ?_;exact zJ
 rw[yAj ⟨h1,h2⟩];have cu:=zAx l x1;cases hu:eV l x1
 ·rw[hu]at cu;refine eM call218 λF hF=>?_
  refine zV cu ?_;exact zJ
 rw[hu]at cu;obtain⟨u0,u1⟩:=WX hu;have hyt:=yN xB l x1 u0 u1;generalize l.getD x1.toNat default=t at *;have ce:=zTz (b.drop 2) t.sec;have cx:=KM t now;have cp:=zFj t.rights k;generalize eqY (b.drop 2) t.sec=q1 at *;generalize exF t now=q2 at *;generalize peF t.rights k=q3 at*
 cases q1<;>cases q2<;>cases q3<;>((refine eM call218 λF hF=>?_);(refine yQ (ZB cu ce cx cp) ?_);exact zJ)
def rgZ:Rg:=⟨0,⟨[],0,0,[],0,0,0,0⟩,[],[],⟨0,0,0⟩⟩
def KH (k:Int):Bool:=decide (2<=k/\k<=8)
def opE (r:Rg) (m:Ms) (now:Int):Int:=if ckB r.tk r.num m.tok m.kind now=true then(if KH m.kind=true/\r.bk.level<=0 then 13 else 0)else 9
def opR (r:Rg) (m:Ms) (now:Int):Rg:=if opE r m now=0 then(if KH m.kind=true then⟨r.num,r.ag,r.tk,r.vh,EW r.bk⟩else r)else rgZ
def opS (r:Rg) (m:Ms) (now:Int):Int:=if opE r m now=0 then m.tok.getD 1 default else 0
def zT0 (r:Rg) (m:Ms) (now:Int) (hr:EZ r) (hm:BY m.tok) (hl:r.bk.level<=1000000):zN 200 [qG r,yB m,iA now] [] (.tup [qG (opR r m now),iA (opS r m now),iA (opE r m now)]) []:=by
 have c1:=zOu r.tk r.num m.tok m.kind now hm;have c2:=dJ r hr;have c3:=zPm r.bk zB;unfold opR opS opE
 cases hc1:ckB r.tk r.num m.tok m.kind now<;>rw[hc1]at c1
 ·(refine eM call200 λF hF=>?_)
  refine zV c1 ?_;exact zJ
 ·generalize m.tok.getD 1 default=slot at *;cases hk:KH m.kind
  ·have hk':¬(2<=m.kind/\m.kind<=8):=of_decide_eq_false hk;refine eM call200 λF hF=>?_
   refine yQ (wV c1 c2) (I2 (λhc=>?_) λhc=>?_)
   all_goals (first|exact zXO|exact zJ)
  ·have hk':2<=m.kind/\m.kind<=8:=yEy hk;by_cases hv:r.bk.level<=0
   ·rw[yAl zB]at c3;simp only[hv,and_self,yF4];refine eM call200 λF hF=>?_
    refine yQ (gG c1 c2 c3) ?_;exact zJ
   ·rw[yAj zB]at c3;simp only[hv,yGl,if_false,yF4];generalize hb:EW r.bk=b2 at *;refine eM call200 λF hF=>?_
    refine yQ (gG c1 c2 c3) ?_;exact zJ
def rtF (r:Rg) (now:Int):Rg:=⟨r.num,r.ag,NA r.tk now,r.vh,btF r.bk⟩
def zOv (r:Rg) (now:Int) (hr:EZ r) (hl: -1000000<=r.bk.level+r.bk.rate/\r.bk.level+r.bk.rate<=1000000):zN 130 [qG r,iA now] [] (qG (rtF r now)) []:=by
 have c1:=dJ r hr;have c2:=zIm r.tk hr.tk now;have c3:=zPl r.bk zB;unfold rtF;generalize NA r.tk now=tk at *;generalize btF r.bk=bk at *;refine eM call130 λF hF=>?_
 refine yQ (gG c1 c2 c3) ?_;exact zJ
def zAk (l:List Tk) (hb:FH l):yY [zC xB l] [] (.ref 1001 0 (l.map xB).length) [(1001,.arr 6 (l.map xB) false)]:=yF
def PL (r:Rg) (hb:EZ r):yY [qG r] [] (qG r) []:=yF
def IG (r:Rg) (hb:EZ r):zN 165 [qG r] [] (qG r) []:=by
 have hs:=hb.s;have hlm:=hb.l;have k1:=wL r.ag.sec zB;have k2:=UN r.ag.lim zB;have hn:=hb.tk.n;have hv:=hb.v;have c2:=VC r.tk zB;have c3:=EX r.vh zB;have hll:=zA xB r.tk;refine eM call165 λF hF=>?_
 refine yQ (gG k1 k2 c2) ?_;refine zO ((r.tk.map xB).length) [1001,1,2] [1,2] [1,2,22] [23,1,2,22] Z (λi T U=>⟨(23,iA i)::T,(1001,.arr 6 (jI i (r.tk.map xB)) false)::U⟩) ?_;(conv=>whnf);refine⟨by rfl,?_,?_⟩
 ·intro i hi;have hi':i<r.tk.length:=by omega
  have hy:(jI i (r.tk.map xB))[i]? =some (xB (r.tk.getD i default)):=zM xB r.tk i hi';have e:=kN xB r.tk i hi';have c2:=wL (r.tk.getD i default).sec (by have:=hb.tk.s (r.tk.getD i default) ZF;omega);generalize (r.tk.getD i default)=t at *;generalize jI i (r.tk.map xB)=xs at *;generalize jI (i+1) (r.tk.map xB)=ys at *;subst e;refine zV c2 ?_;rfl
 ·(refine zV c3 ?_)
  exact zH [] Z Z (yBa (rgX r) yAh) Z
structure xJ where
 rg:Rg
 rq:List Rq
 dr:List (List Int)
 au:List Bool
def qR (l:List Int):AV:=zC yA l
def wJ (r:Rg) (a b c:AV):AV:= .agg [iA r.num,zC yA r.ag.sec,iA r.ag.rights,iA r.ag.cls,zC iA r.ag.lim,iA r.ag.req,iA r.ag.ses,iA r.ag.rate,iA r.ag.burst,zC xB r.tk,zC vQ r.vh,iA r.bk.level,iA r.bk.rate,iA r.bk.burst,a,b,c]
def zL (d:xJ):AV:=wJ d.rg (zC yL d.rq) (zC qR d.dr) (zC bA d.au)
structure dH (d:xJ):Prop where
 rg:EZ d.rg
 q:d.rq.length<=1000
 g:∀r∈d.rq,r.legs.length<=1000
 n:d.dr.length<=1000
 e:∀b∈d.dr,b.length<=1000
 a:d.au.length<=1000
def WQ (l:List Rq) (hl:l.length<=1073741824):zN 166 [zC yL l] [] (.ref 1001 0 (l.map yL).length) [(1001,.arr 5 (l.map yL) false)]:=by
 have hll:=zA yL l;refine eM call166 λF hF=>?_
 refine yZ 0 Z (λcap hx=>?_) ?_
 ·have:l=[]:=by simpa using hx
  subst this
  (repeat' (first|refine WZN ?_|apply xM|apply xZ|intro hc|fail))
  refine vX 2 1001 5 Z Z Z (yW ?_);exact zK [1001] Z Z Z Z
 ·repeat' (first|(refine zE ?_;first|refine vF tok Z Z ?_|(refine wE ?_;refine yJ (yS tok (.inl ⟨rfl,rfl⟩) Z Z Z Z) Z ?_)|(refine yV ?_;refine uT (nw:=[1001]) (yI tok 1001 (xs:=[]) Z Z Z Z Z Z Z Z Z) Z Z Z ?_)|(refine yK ?_;refine xU tok Z Z Z Z Z Z Z (yC _ _ (λ_=>rfl)) Z Z Z zB Z ?_)|refine uQ ?_)|(first|refine xQ ?_|refine xE ?_|refine vG Z ?_|refine zX Z ?_|refine zU Z ?_|refine xK Z (λhc=>?_) λhc=>?_|refine xA ?_|refine yW ?_|refine xD ?_|refine yU ?_))
  exact zK [1001] Z Z Z Z
def OP (l:List (List Int)) (hl:l.length<=1073741824):zN 168 [zC qR l] [] (.ref 1002 0 (l.map qR).length) [(1002,.arr 1 (l.map qR) false)]:=by
 have hll:=zA qR l;refine eM call168 λF hF=>?_
 refine yZ 0 Z (λcap hx=>?_) ?_
 ·have:l=[]:=by simpa using hx
  subst this
  (repeat' (first|refine WZN ?_|apply xM|apply xZ|intro hc|fail))
  refine vX 2 1002 1 Z Z Z (yW ?_);exact zK [1002] Z Z Z Z
 ·repeat' (first|(refine zE ?_;first|refine vF tok Z Z ?_|(refine wE ?_;refine yJ (yS tok (.inl ⟨rfl,rfl⟩) Z Z Z Z) Z ?_)|(refine yV ?_;refine uT (nw:=[1002]) (yI tok 1002 (xs:=[]) Z Z Z Z Z Z Z Z Z) Z Z Z ?_)|(refine yK ?_;refine xU tok Z Z Z Z Z Z Z (yC _ _ (λ_=>rfl)) Z Z Z zB Z ?_)|refine uQ ?_)|(first|refine xQ ?_|refine xE ?_|refine vG Z ?_|refine zX Z ?_|refine zU Z ?_|refine xK Z (λhc=>?_) λhc=>?_|refine xA ?_|refine yW ?_|refine xD ?_|refine yU ?_))
  exact zK [1002] Z Z Z Z
def EG (l:List Bool) (hl:l.length<=1073741824):zN 169 [zC bA l] [] (zC bA l) []:=by
 have hll:=zA bA l;refine eM call169 λF hF=>?_
 refine yZ 0 Z (λcap hx=>?_) ?_
 ·have:l=[]:=by simpa using hx
  subst this;refine WW ?_;exact zJ
 ·(refine WW ?_)
  refine zH [] Z Z (cG _ _) Z
def bE (d:xJ) (hb:dH d):zN 127 [zL d] [] (zL d) []:=by
 have k1:=IG d.rg hb.rg;have hq:=hb.q;have hdn:=hb.n;have hau:=hb.a;have k2:=WQ d.rq zB;have k3:=OP d.dr zB;have k4:=EG d.au zB;have hlq:=zA yL d.rq;have hld:=zA qR d.dr;unfold zL wJ;unfold qG at k1;refine eM call127 λF hF=>?_
 refine yQ (wV k1 k2) ?_;refine zO ((d.rq.map yL).length) [1001,1,2] [1,2] [1,2,15] [16,1,2,15] Z (λi T U=>⟨(16,iA i)::T,(1001,.arr 5 (jI i (d.rq.map yL)) false)::U⟩) ?_;(conv=>whnf);refine⟨by rfl,?_,?_⟩
 ·intro i hi;have hi':i<d.rq.length:=by omega
  have hy:(jI i (d.rq.map yL))[i]? =some (yL (d.rq.getD i default)):=zM yL d.rq i hi';have e:=kN yL d.rq i hi';have c2:=bG (d.rq.getD i default).legs (hb.g (d.rq.getD i default) ZF);generalize (d.rq.getD i default)=t at *;generalize jI i (d.rq.map yL)=xs at *;generalize jI (i+1) (d.rq.map yL)=ys at *;subst e;refine zV c2 ?_;rfl
 ·(refine zV k3 ?_)
  refine zO ((d.dr.map qR).length) [1002,1,2,1001] [1,2,1001] [1,2,38] [39,1,2,38] Z (λi T U=>⟨(39,iA i)::T,(1002,.arr 1 (jI i (d.dr.map qR)) false)::U⟩) ?_;(conv=>whnf);refine⟨by rfl,?_,?_⟩
  ·intro i hi;have hi':i<d.dr.length:=by omega
   have hy:(jI i (d.dr.map qR))[i]? =some (qR (d.dr.getD i default)):=zM qR d.dr i hi';have e:=kN qR d.dr i hi';have c2:=wL (d.dr.getD i default) (by have:=hb.e (d.dr.getD i default) ZF;omega);generalize (d.dr.getD i default)=t at *;generalize jI i (d.dr.map qR)=xs at *;generalize jI (i+1) (d.dr.map qR)=ys at *;subst e;refine zV c2 ?_;rfl
  ·(refine zV k4 ?_)
   refine zH [] Z Z ?_ Z
   show wJ d.rg (.sl false ((d.rq.map yL).take (d.rq.map yL).length)) (.sl false ((d.dr.map qR).take (d.dr.map qR).length)) (zC bA d.au)=_
   rw[yAh,yAh];rfl
def jN (d:xJ) (hb:dH d):yY [zL d] [] (zL d) []:=yF
def zH0 (t:Tk):Bool:=decide ((t.sec.length:Int)=8/\0<=t.cls/\t.cls<=3/\0<=t.til/\t.til<=2147483648)
def soF (t:Tk):Bool:=FG t.rights&&zH0 t
def IH (t:Tk):zN 291 [xB t] [] (bA (soF t)) []:=by
 have c:=XA t.rights;have hl:=zA yA t.sec;unfold soF;generalize FG t.rights=v at *;cases v
 ·rw[yB4];refine eM call291 λF hF=>?_
  refine zV c (I2 (λhc=>?_) λhc=>?_)
  all_goals exact zJ
 ·rw[yA3]
  (cases hb:zH0 t with|false=>((refine eM call291 λF hF=>?_);((refine zV c (I5 (λhc hc hc hc=>?_) (λhc hc hc hc=>?_) (λhc hc hc=>?_) (λhc hc=>?_) λhc=>?_)));all_goals (first|exact zJ|(simp only[zH0,yAy]at hb;first|exact zXO|exact AT)))|true=>(simp only[zH0,yAm]at hb;(refine eM call291 λF hF=>?_);((refine zV c ?_));all_goals (first|exact zJ|exact zXO|exact AT)))
def EH (t:Tk):Bool:=decide ((t.sec.length:Int)=0/\t.par= -1/\t.rights=0/\t.cls=0/\t.til=0)
def LA (u:Bool) (t:Tk):AV:= .agg [bA u,zC yA t.sec,iA t.par,iA t.rights,iA t.cls,iA t.til]
def zH1 (t:Tk):zN 292 [LA false t] [] (bA (EH t)) []:=by
 have hl:=zA yA t.sec
 (cases hb:EH t with|false=>((refine eM call292 λF hF=>?_);((refine WW (I5 (λhc hc hc hc=>?_) (λhc hc hc hc=>?_) (λhc hc hc=>?_) (λhc hc=>?_) λhc=>?_)));all_goals (first|exact zJ|(simp only[EH,yAy]at hb;first|exact zXO|exact AT)))|true=>(simp only[EH,yAm]at hb;(refine eM call292 λF hF=>?_);((refine WW ?_));all_goals (first|exact zJ|exact zXO|exact AT)))
def OQ (l:List Tk) (s:Int):Bool:=if(l.getD s.toNat default).used=true then soF (l.getD s.toNat default)&&deF l s 0&&(wiF (l.getD s.toNat default).rights (l.getD (l.getD s.toNat default).par.toNat default).rights&&decide ((l.getD s.toNat default).cls<=(l.getD (l.getD s.toNat default).par.toNat default).cls)&& !laF (l.getD s.toNat default).til (l.getD (l.getD s.toNat default).par.toNat default).til)
 else EH (l.getD s.toNat default)
def KI (t:Tk):Bool:=t.used&&decide (t.par= -1/\t.til=0)&&soF t
def LK (l:List Tk):Bool:=decide ((l.length:Int)=8)&&(KI (l.getD 0 default)&&(List.range 7).all λi=>OQ l ((i:Int)+1))
def zT1 {l:List Tk} {i:Nat} (hi:i<7) (h:OQ l ((i:Int)+1)=false):LK l=false:=by
 unfold LK;have:((List.range 7).all λi=>OQ l ((i:Int)+1))=false:=yDd.2 ⟨i,yA2.2 hi,by simp[h]⟩;rw[this];simp
def zOw {l:List Tk} {s:Int} (h:deF l s 0=true) (h0:s≠0):eV l (l.getD s.toNat default).par=true:=by
 unfold deF at h;rw[fH l 7 s]at h
 cases hu:eV l s<;>rw[hu]at h
 ·simp at h
 ·rw[yBx,List.any_cons]at h;have:(s==0)=false:=by simpa using h0
  rw[this,yC9,fH l 6]at h;cases hp:eV l (l.getD s.toNat default).par
  ·rw[hp]at h;simp at h
  ·rfl
theorem UK (l:List Tk):zN 262 [zC xB l] [] (bA (LK l)) []:=by
 have hll:=zA xB l;by_cases h8:(l.length:Int)=8
 case neg=>
  rw[show LK l=false by unfold LK;rw[yAl h8];rfl];refine eM call262 λF hF=>?_
  refine WW ?_;exact zJ
 have hy0:=yN xB l 0 zB zB
 change (l.map xB)[0]? =some (xB (l.getD 0 default))at hy0
 cases hr:KI (l.getD 0 default)
 ·rw [show LK l=false by unfold LK;rw[hr];simp];have c:=IH (l.getD 0 default);unfold KI at hr;generalize l.getD 0 default=t at *;generalize soF t=q at *;cases hu:t.used
  ·rw[show xB t=LA false t by unfold xB LA;rw[hu]]at *; unfold LA at *;refine eM call262 λF hF=>?_
   refine zV c ?_;exact zJ
  ·rw[show xB t=LA true t by unfold xB LA;rw[hu]]at *; unfold LA at *;by_cases h1:t.par= -1
   ·by_cases h2:t.til=0
    ·rw[hu,yAj ⟨h1,h2⟩,yA3,yA3]at hr;subst hr;refine eM call262 λF hF=>?_
     refine zV c ?_;exact zJ
    ·(refine eM call262 λF hF=>?_)
     refine zV c ?_;exact zJ
   ·(refine eM call262 λF hF=>?_)
    refine zV c ?_;exact zJ
 have c0:=IH (l.getD 0 default);have hr':=hr;unfold KI at hr';simp only[yAs,yAm]at hr';obtain⟨⟨hu,h1,h2⟩,h3⟩:=hr';have hy0':=hy0;rw[h3]at c0;rw[show xB (l.getD 0 default)=LA true (l.getD 0 default) by unfold xB LA;rw[hu]]at hy0' c0;unfold LA at hy0' c0;clear hy0;generalize ht0:l.getD 0 default=t0 at hy0' c0 h1 h2;refine eM call262 λF hF=>?_
 refine zV c0 ?_;refine xS (7) [] [] [0] [4,0] Z (λi T U zs=>(∀s:Nat,s<i->OQ l ((s:Int)+1)=true)/\zs=⟨(4,iA ((i:Int)+1))::T,U⟩) ?_;(conv=>whnf);refine⟨?_,?_,?_⟩
 ·exact⟨λs hs=>absurd hs (yC3 _),rfl⟩
 ·rintro i st hi ⟨hp,rfl⟩
  have next:OQ l ((i:Int)+1)=true->∀s:Nat,s<i+1->OQ l ((s:Int)+1)=true:=λh s hs=>by
   by_cases hsi:s=i
   ·subst hsi;exact h
   ·exact hp s zB
  have stop:=λh=>zT1 (l:=l) hi h
  have hy:=yN xB l ((i:Int)+1) zB zB;have c1:=IH (l.getD ((i:Int)+1).toNat default);have c2:=zH1 (l.getD ((i:Int)+1).toNat default);have c3:=zIi l ((i:Int)+1) 0;have hpar:=zOw (l:=l) (s:=(i:Int)+1);have htok:OQ l ((i:Int)+1)=_:=rfl
  conv at htok=>rhs;unfold OQ
  generalize l.getD ((i:Int)+1).toNat default=t at *;generalize OQ l ((i:Int)+1)=tk at *;cases hu:t.used
  ·rw[show xB t=LA false t by unfold xB LA;rw[hu]]at hy;rw[hu,yAc zS]at htok;rw[<-htok]at c2;unfold LA at hy c2;cases tk
   ·rw[stop Z];refine zV c2 ?_;exact zJ
   ·(refine zV c2 ?_)
    exact⟨next Z,by rw[Int.natCast_succ];rfl⟩
  ·rw[show xB t=LA true t by unfold xB LA;rw[hu]]at hy c1;rw[hu,yAd Z]at htok;unfold LA at hy c1;generalize soF t=q1 at *;generalize hq2:deF l ((i:Int)+1) 0=q2 at *;cases q1
   ·rw[yB4,yB4]at htok;rw[stop htok];refine zV c1 ?_;exact zJ
   cases q2
   ·rw[yA3,yB4]at htok;rw[stop htok];refine yQ (wV c1 c3) ?_;exact zJ
   rw[yA3,yA3]at htok;obtain⟨p0,p1⟩:=WX (hpar Z zB);have hyp:=yN xB l t.par p0 p1;generalize l.getD t.par.toNat default=p at *;have c4:=EV t.rights p.rights;have c5:=zC4 t.til p.til;generalize wiF t.rights p.rights=q3 at *;generalize laF t.til p.til=q4 at *;cases q3
   ·rw[yB4,yB4]at htok;rw[stop htok];refine yQ (gG c1 c3 c4) ?_;exact zJ
   by_cases hcl:t.cls<=p.cls
   ·rw[yAj hcl,yA3,yA3]at htok;cases q4
    ·(refine yQ (ZB c1 c3 c4 c5) ?_)
     exact⟨next htok,by rw[Int.natCast_succ];rfl⟩
    ·rw[stop htok];refine yQ (ZB c1 c3 c4 c5) ?_;exact zJ
   ·rw[yAl hcl,yA3,yB4]at htok;rw[stop htok];refine yQ (ZB c1 c3 c4 c5) ?_;exact zJ
 ·rintro st ⟨hp,rfl⟩
  rw[show LK l=true by
   unfold LK;rw[yAj h8,hr,yA3,yA3]
   exact yAu.2 λi hi=>hp i (yA2.1 hi)]
  refine WW ?_;exact zJ
def ldF (l:List Tk):Nat->Int->Int->Bool
 |0,_,_=>false
 |n+1,f,t=>eV l f&&(f==t||ldF l n (l.getD f.toNat default).par t)
def zH2 (l:List Tk) (n:Nat) (f t:Int):ldF l (n+1) f t=(eV l f&&(f==t||ldF l n (l.getD f.toNat default).par t)):=rfl
theorem zH3 (l:List Tk) (t:Int):∀(n:Nat) (f:Int),ldF l n f t=(XX l n f).any λa=>a==t
 |0,_=>rfl
 |n+1,f=>by
  rw[zH2,fH];cases eV l f
  ·rfl
  ·rw[yBx,List.any_cons,zH3 l t n,yA3]
def QH (l:List Tk) (s:Nat):Bool:=if(l.getD s default).used=true then soF (l.getD s default)&&ldF l (l.length+1) s 0&&(decide (s=0)||(wiF (l.getD s default).rights (l.getD (l.getD s default).par.toNat default).rights&&decide ((l.getD s default).cls<=(l.getD (l.getD s default).par.toNat default).cls)&& !laF (l.getD s default).til (l.getD (l.getD s default).par.toNat default).til))
 else EH (l.getD s default)
def OR (t:Tk):Bool:=t.used&&decide (t.par= -1/\t.til=0)
def zH4 (l:List Tk):Bool:=decide ((l.length:Int)=8)&&(OR (l.getD 0 default)&&(List.range l.length).all λi=>QH l i)
def KJ (l:List Tk):yY [zC xB l] [] (bA (zH4 l)) []:=yF
def zOx (l:List Tk) (s:Int) (hn:l.length=8):yY [zC xB l,iA s] [] (iA (dK (λi=>ldF l (l.length+1) i s) 8)) []:=yF
def frB (p:Nat->Bool) (l:List Tk) (n:Nat):List Tk:=(List.range l.length).map λj=>if j<n/\p j=true then frT else l.getD j default
def zOy (l:List Tk) (hb:FH l) (p:Nat->Bool) (hn:l.length=8):yY [zC xB l,iA (dK p 8)] [] (zC xB (frB p l 8)) []:=yF
theorem zH5:∀(n:Nat) (f:Nat->Nat),(∀i,i<=n->f i<n)->∃i j,i<j/\j<=n/\f i=f j
 |0,f,h=>absurd (h 0 (yAg _)) (yC3 _)
 | n+1,f,h=>by
  by_cases hx:∃i,i<=n/\f i=f (n+1)
  ·obtain⟨i,h1,h2⟩:=hx;exact⟨i,n+1,zB,yAg _,h2⟩
  ·obtain⟨i,j,h1,h2,h3⟩:=zH5 n (λi=>if f i<f (n+1)then f i else f i-1) λi hi=>by
    have h4:=h i zB;have h5:=h (n+1) (yAg _);have h6:f i≠f (n+1):=λe=>hx ⟨i,hi,e⟩
    split<;>omega
   refine⟨i,j,h1,zB,?_⟩;have h4:f i≠f (n+1):=λe=>hx ⟨i,zB,e⟩
   have h5:f j≠f (n+1):=λe=>hx ⟨j,h2,e⟩
   split at h3<;>split at h3<;>omega
def par (l:List Tk) (s:Int):Int:=(l.getD s.toNat default).par
def EJ (l:List Tk) (s:Int):Nat->Int
 |0=>s
 |k+1=>par l (EJ l s k)
theorem ZO (l:List Tk) (s:Int):∀k,EJ l s (k+1)=EJ l (par l s) k
 |0=>rfl
 |k+1=>by rw[EJ,ZO l s k];rfl
theorem II (l:List Tk) (s:Int) (i:Nat):∀k,EJ l s (i+k)=EJ l (EJ l s i) k
 |0=>rfl
 |k+1=>by rw[<-yFk,EJ,II l s i k];rfl
theorem aA (l:List Tk) (t:Int):∀(n:Nat) (s:Int),t∈XX l n s↔∃k,k<n/\(∀j,j<=k->eV l (EJ l s j)=true)/\EJ l s k=t
 |0,s=>by simp[XX]
 | n +1,s=>by
  rw[fH];constructor
  ·intro h;cases hu:eV l s
   ·rw[hu]at h;simp at h
   ·rw[hu,yBx,yBt]at h
    rcases h with rfl|h
    ·exact⟨0,zB,λj hj=>by rw[Nat.le_zero.1 hj];exact hu,rfl⟩
    ·obtain⟨k,h1,h2,h3⟩:=(aA l t n _).1 h;refine⟨k+1,zB,λj hj=>?_,by rw[ZO];exact h3⟩
     cases j with
     |zero=>exact hu
     |succ j=>rw[ZO];exact h2 j zB
  ·rintro⟨k,h1,h2,h3⟩;have hu:=h2 0 (yAt _)
   change eV l s=true at hu
   rw[hu,yBx,yBt]
   cases k with
   |zero=>exact .inl h3.symm
   |succ k=>
    rw[ZO]at h3;refine .inr ((aA l t n _).2 ⟨k,zB,λj hj=>?_,h3⟩);have:=h2 (j+1) zB;rw[ZO]at this;exact this
def zSa {l:List Tk} (h8:l.length=8) (s t:Int) (n:Nat) (h:t∈XX l n s):t∈XX l 8 s:=by
 obtain⟨k,_,h2,h3⟩:=(aA l t n s).1 h;clear h
 suffices ∀m k,k<=m->(∀j,j<=k->eV l (EJ l s j)=true)->EJ l s k=t->t∈XX l 8 s from this k k (yAg _) h2 h3
 intro m
 induction m with
 |zero=>intro k hk h2 h3;exact(aA l t 8 s).2 ⟨k,zB,h2,h3⟩
 | succ m ih=>
  intro k hk h2 h3;by_cases h:k<8
  ·exact(aA l t 8 s).2 ⟨k,h,h2,h3⟩
  obtain⟨i,j,h4,h5,h6⟩:=zH5 8 (λi=>(EJ l s i).toNat) λi hi=>by
   have:=WX (h2 i zB);omega
  have e1:=WX (h2 i zB);have e2:=WX (h2 j zB);have e3:EJ l s i=EJ l s j:=by omega
  have e4:∀r,EJ l s (i+r)=EJ l s (j+r):=λr=>by rw[II,II,e3]
  refine ih (i+(k-j)) zB (λr hr=>h2 r zB) ?_;rw[e4,show j+(k-j)=k by omega];exact h3
def zH6 (l:List Tk) {t s:Int} {n m:Nat} (hnm:n<=m) (h:t∈XX l n s):t∈XX l m s:=by
 obtain⟨k,h1,h2,h3⟩:=(aA l t n s).1 h;exact(aA l t m s).2 ⟨k,zB,h2,h3⟩
inductive Rch (l:List Tk):Int->Int->Prop
 |base (s:Int):eV l s=true->Rch l s s
 |step (s t:Int):eV l s=true->Rch l (par l s) t->Rch l s t
theorem zAl (l:List Tk) (t:Int):∀(n:Nat) (s:Int),t∈XX l n s->Rch l s t
 |0,s,h=>by simp[XX]at h
 | n+1,s,h=>by
  rw[fH]at h;cases hu:eV l s
  ·rw[hu]at h;simp at h
  ·rw[hu,yBx,yBt]at h
   rcases h with rfl|h
   ·exact .base _ hu
   ·exact .step _ _ hu (zAl l t n _ h)
def zCy {l:List Tk} {s t:Int} (h:Rch l s t):∃n,t∈XX l n s:=by
 induction h with
 |base s hu=>exact⟨1,by rw[fH,hu,yBx];exact List.mem_cons_self⟩
 |step s t hu _ ih=>
  obtain⟨n,hn⟩:=ih;exact⟨n+1,by rw[fH,hu,yBx];exact List.mem_cons_of_mem _ hn⟩
def IJ {l:List Tk} (h8:l.length=8) (s t:Int):ldF l 9 s t=true↔Rch l s t:=by
 rw[zH3,yB8];constructor
 ·rintro⟨x,h1,h2⟩;rw[yBw]at h2;subst h2;exact zAl l _ _ _ h1
 ·intro h;obtain⟨n,hn⟩:=zCy h;exact⟨t,zH6 l zB (zSa h8 s t n hn),by simp⟩
def zT9 {l:List Tk} (h8:l.length=8) (s t:Int):deF l s t=true↔Rch l s t:=by
 unfold deF;rw[yB8];constructor
 ·rintro⟨x,h1,h2⟩;rw[yBw]at h2;subst h2;exact zAl l _ _ _ h1
 ·intro h;obtain⟨n,hn⟩:=zCy h;exact⟨t,zSa h8 s t n hn,by simp⟩
def zSb {l:List Tk} (h8:l.length=8) (s t:Int):deF l s t=ldF l 9 s t:=by
 rw[yE5,zT9 h8,IJ h8]
def zH7 (l:List Tk):LK l=zH4 l:=by
 unfold LK zH4;by_cases h8:l.length=8
 case neg=>rw[yAl zB];rfl
 rw[yAj zB,yA3,yA3,h8,yE5];simp only[yAs,yAu,yA2]
 have hs:∀i:Nat,i<7->(OQ l ((i:Int)+1)=QH l (i+1)):=λi hi=>by
  unfold OQ QH;rw[zSb h8,h8,show(((i+1:Nat):Int)=(i:Int)+1) by omega,show((i:Int)+1).toNat=i+1 by omega,yAl (by omega:¬i+1=0),yC9]
 constructor
 ·rintro⟨h1,h2⟩;unfold KI at h1;simp only[yAs,yAm]at h1;obtain⟨⟨u,p,q⟩,r⟩:=h1;refine⟨by unfold OR;rw[u,p,q];rfl,λi hi=>?_⟩
  cases i with
  |zero=>
   unfold QH;rw[yAd u,r,h8];have:ldF l 9 ((0:Nat):Int) 0=true:=(IJ h8 _ _).2 (.base _ (by unfold eV;rw[yAj zB];exact u));rw[show(8+1)=9 from Z,this];rfl
  |succ i=>rw[<-hs i zB];exact h2 i zB
 ·rintro⟨h1,h2⟩;have h3:=h2 0 zB;unfold OR at h1;simp only[yAs,yAm]at h1;obtain⟨u,p,q⟩:=h1;unfold QH at h3;rw[yAd u]at h3;simp only[yAs]at h3;refine⟨by unfold KI;rw[u,p,q,h3.1.1];rfl,λi hi=>by rw[hs i hi];exact h2 (i+1) zB⟩
structure TV (l:List Tk):Prop where
 n:l.length=8
 u:(l.getD 0 default).used=true
 p:(l.getD 0 default).par= -1
 e:(l.getD 0 default).til=0
 f:∀i,i<8->(l.getD i default).used=false->EH (l.getD i default)=true
 s:∀i,i<8->(l.getD i default).used=true->soF (l.getD i default)=true/\Rch l i 0/\(i≠0->wiF (l.getD i default).rights (l.getD (l.getD i default).par.toNat default).rights=true/\(l.getD i default).cls<=(l.getD (l.getD i default).par.toNat default).cls/\laF (l.getD i default).til (l.getD (l.getD i default).par.toNat default).til=false)
def zUa (l:List Tk):zH4 l=true↔TV l:=by
 unfold zH4;simp only[yAs,yAm,yAu,yA2];constructor
 ·rintro⟨h8,h1,h2⟩;have h8:l.length=8:=by omega
  unfold OR at h1;simp only[yAs,yAm]at h1;refine⟨h8,h1.1,h1.2.1,h1.2.2,λi hi hu=>?_,λi hi hu=>?_⟩
  ·have:=h2 i zB;unfold QH at this;rw[yAc (by rw[hu];simp)]at this;exact this
  ·have:=h2 i zB;unfold QH at this;rw[yAd hu,h8]at this;simp only[yAs,yC1,yAm,yCz]at this;obtain⟨⟨a,b⟩,c⟩:=this;refine⟨a,(IJ h8 _ _).1 b,λh0=>?_⟩
   rcases c with c|c
   ·exact absurd c h0
   ·exact⟨c.1.1,c.1.2,c.2⟩
 ·rintro⟨h8,u,p,e,f,s⟩;refine⟨zB,by unfold OR;rw[u,p,e];rfl,λi hi=>?_⟩;unfold QH;cases hu:(l.getD i default).used
  ·rw[yAc zS];exact f i zB hu
  ·rw[yAd Z,h8];obtain⟨a,b,c⟩:=s i zB hu;simp only[yAs,yC1,yAm,yCz];refine⟨⟨a,(IJ h8 _ _).2 b⟩,?_⟩;by_cases h0:i=0
   ·exact .inl h0
   ·have c:=c h0;exact .inr ⟨⟨c.1,c.2.1⟩,c.2.2⟩
theorem Rch.us {l:List Tk} {s t:Int} (h:Rch l s t):eV l s=true:=by
 cases h<;>assumption
theorem Rch.trans {l:List Tk} {s t u:Int} (h:Rch l s t) (g:Rch l t u):Rch l s u:=by
 induction h with
 |base _ _=>exact g
 |step s t hu _ ih=>exact .step _ _ hu (ih g)
def jV (n a b:Int):Bool:=decide (a<=n/\n<=b)
def vV (n a b:Int):zN 142 [iA n,iA a,iA b] [] (bA (jV n a b)) []:=by
 (cases hb:jV n a b with|false=>((refine eM call142 λF hF=>?_);((refine WW (I2 (λhc=>?_) λhc=>?_)));all_goals (first|exact zJ|(simp only[jV,yAy]at hb;first|exact zXO|exact AT)))|true=>(simp only[jV,yAm]at hb;(refine eM call142 λF hF=>?_);((refine WW ?_));all_goals (first|exact zJ|exact zXO|exact AT)))
structure AgV (a:Ag):Prop where
 s:(a.sec.length:Int)=8
 l:(a.lim.length:Int)=4
 li:∀n∈a.lim,0<=n/\n<=8
 r:0<=a.rights/\a.rights<=63
 c:0<=a.cls/\a.cls<=3
 q:0<=a.req/\a.req<=4
 e:1<=a.ses/\a.ses<=2
 b:0<=a.burst/\a.burst<=1000
 t:0<=a.rate/\a.rate<=a.burst
def zSc {n a b:Int} (h:a<=n/\n<=b):jV n a b=true:=yAj h
def zE7 (a:Ag) (h:AgV a):zN 144 [wK a] [] (bA true) []:=by
 obtain⟨h1,h2,h3,h4,h5,h6,h7,h8,h9⟩:=h;have hs:=zA yA a.sec;have hl:=zA iA a.lim;have c1:=vV a.rights 0 63;have c2:=vV a.cls 0 3;have c3:=vV a.req 0 4;have c4:=vV a.ses 1 2;have c5:=vV a.burst 0 1000;have c6:=vV a.rate 0 a.burst;rw[zSc zB]at c1 c2 c3 c4 c5 c6;refine eM call144 λF hF=>?_
 refine WW ?_;refine yM (a.lim) [1] [1] [1,16,17] [18,1,16,17] Z (λi pre T U=>⟨(18,iA i)::T,U⟩) ?_;(conv=>whnf);refine⟨by rfl,?_,?_⟩
 ·intro i pre x post hx hi;have hy:=xG iA hx hi;have hlt:=yP hx hi;have hm:=h3 x (wT hx);have c:=vV x 0 8;rw[zSc zB]at c;clear hx;refine zV c ?_;rfl
 ·(refine yQ (zt6 c1 c2 c3 c4 c5 c6) ?_)
  exact zJ
def a0:Ag:=⟨dY 1,1,0,[1,1,1,1],0,1,0,2⟩
def jJ (n:Int):(dY n).length=8:=by simp[dY]
def zOz (n:Int):0<=IntKind.u8.wrap n/\IntKind.u8.wrap n<256:=by
 have:IntKind.u8.wrap n=n % 256:=rfl;omega
def YV (n:Int):BY (dY n):=λx hx=>by
 unfold dY at hx;rw[yBl]at hx;obtain⟨i,_,rfl⟩:=hx;exact zOz _
def IK {g s:Int} {l:List Int} (hg:0<=g/\g<256) (hs:0<=s/\s<256) (hl:BY l):BY (g::s::l):=λx hx=>by
 simp only[yBt]at hx
 rcases hx with rfl|rfl|hx
 ·exact hg
 ·exact hs
 ·exact hl x hx
def zW9 (n:Int) (a:Ag) (h:AgV a):EZ (EF n a):=by
 have h1:=h.s;have h2:=h.l;refine⟨⟨by simp[EF,tkN],λt ht=>?_⟩,by unfold EF;dsimp only;omega,by unfold EF;dsimp only;omega,by simp[EF]⟩;simp only[EF,tkN,yBt]at ht
 rcases ht with rfl|ht
 ·dsimp only;omega
 ·rw[yFa ht];simp[frT]
section
open Go.RowKit
def LIn (k:IntKind) (w:World) (A:Option Addr) (n c:Nat) (xs:List Int):Prop:=
 xs.length=n/\n<=c/\c<=9223372036854775807/\(0<n->∃b o,A=some ⟨b,o,none⟩/\b<w.heap.size/\∀j,j<n->w.cell? ⟨b,o+j,none⟩=some (.int k (xs.getD j 0)))
theorem LIn.of_row {k:IntKind} {w:World} {a:Option Addr} {len cap:Nat} {zs:List Int}
  (h:(a=none/\len=0/\cap=0/\zs=[])∨∃x,a=some x/\len<=cap/\cap<=maxLen/\zs.length=cap/\(∀i,i<zs.length->w.cell? (x.add i)=some (.int k (zs.getD i 0)))/\∀n∈zs,(Lit.int k n).wf=true):
  LIn k w a len cap (zs.take len):=by
 rcases h with⟨rfl,rfl,rfl,rfl⟩|⟨x,rfl,h1,h2,h3,h4,_⟩
 ·exact⟨rfl,yAg _,zB,λh=>absurd h zB⟩
 ·refine⟨by simp;omega,h1,by unfold maxLen at h2;omega,λhn=>?_⟩;obtain⟨b,off,spot⟩:=x;have hc:=h4 0 zB;have hspot:spot=none:=by simpa [Addr.add]using World.cell?_spot hc
  subst hspot;have hc0:w.cell? ⟨b,off,none⟩=some (.int k (zs.getD 0 0)):=by simpa [Addr.add]using hc
  refine⟨b,off,rfl,World.block_lt_of_cell? w _ hc0,λj hj=>?_⟩;have hcj:=h4 j zB
  have e:(⟨b,off,none⟩:Addr).add j=⟨b,off+j,none⟩:=by unfold Addr.add;split<;>simp_all
  rw[e]at hcj;rw[hcj];have hjz:j<zs.length:=by omega
  simp[List.getD,hj,hjz]
theorem LIn.repf {k:IntKind} {w:World} {A:Option Addr} {n c:Nat} {xs:List Int} (h:LIn k w A n c xs) {D:Nat->Prop} (hD:∀b,¬D b):xH w D (.sl false (xs.map λn=> .s (.int k n))) (.slice A n c):=by
 obtain⟨rfl,h2,h3,h4⟩:=h
 cases hx:xs with
 |nil=>exact .nil A c
 | cons x r=>
  rw[<-hx];obtain⟨b,o,rfl,hb,hc⟩:=h4 (by rw[hx];simp)
  have:=xH.sl (w:=w) (D:=D) false (xs.map λn=>AV.s (.int k n)) b o 1 c (λi _=> .int k (xs.getD i 0)) (by rw[hx];simp)
   ⟨hb,hD b,yAg _,by simp[cA];omega,λi y hy=>by
    rw[yAi,yAq]at hy;obtain⟨z,_,rfl⟩:=hy
    rfl,λi j hi hj=>by
    obtain rfl:j=0:=by omega
    rw[Nat.mul_one,yDm]
    exact hc i DT,λ_ _ _ _=>rfl⟩ KT (λi y j v hy hv=>by
    rw[yAi,yAq]at hy;obtain⟨z,hz,rfl⟩:=hy
    cases j with
    |zero=>
     simp[AV.cells]at hv;subst hv;have:xs.getD i 0=z:=by simp[List.getD,hz]
     rw[this];exact .s _
    |succ j=>simp[AV.cells]at hv)
  simpa using this
theorem xR.law {P:Program} {f:Nat} {args:List AV} (h:xR P f args [] (.s (.bool true)) []) {cargs:Array Value} {w:World} (hl:cargs.size=args.length)
  (hr:∀(i:Nat) v,args[i]? =some v->xH w (xP (λ_=>False) λ_=>[]) v (cargs.getD i undef)):Calls P f cargs w λe w'=>e= .returned (.bool true)/\Below w.heap.size w w':=by
 have H:jA (λ_=>False) (zD []) (λ_=>[]) w:=⟨λk e he=>by simp[zD]at he,λ_ _=>rfl,λk k' b n n' h1 _=>by simp at h1,λk b n h1=>by simp at h1,λb hd=>by
  rcases hd with hd|⟨_,_,hd⟩
  ·exact hd.elim
  ·simp at hd⟩
 refine Calls.mono (h.sim (λ_=>False) w (λ_=>[]) cargs hl H λi v hv=> .fz _ _ (hr i v hv)) ?_;rintro e w' ⟨c,β',rfl,G,hc⟩;have:c= .bool true:=hc.s_inv;subst this;exact⟨rfl,G.os,G.tape,G.output,G.size,λk hk=>G.keep k hk λ_ _ hm=>by simp at hm⟩
def dom0:∀b,¬xP (λ_=>False) (λ_=>[]) b:=λb hd=>by
 rcases hd with hd|⟨_,_,hd⟩
 ·exact hd
 ·simp at hd
def ZP (w:World):List AV->List Value->Prop
 | [],[]=>True
 |a::r,c::s=>xH w (xP (λ_=>False) λ_=>[]) a c/\ZP w r s
 |_,_=>False
theorem ZP.len {w:World}:∀{l:List AV} {s:List Value},ZP w l s->s.length=l.length
 | [],[],_=>rfl
 |_::_,_::_,h=>by simp[ZP.len h.2]
 | [],_::_,h=>h.elim
 |_::_,[],h=>h.elim
theorem ZP.at {w:World}:∀{l:List AV} {s:List Value},ZP w l s->∀(i:Nat) v,l[i]? =some v->xH w (xP (λ_=>False) λ_=>[]) v (s.getD i undef)
 | [],[],_,i,v,hv=>by simp at hv
 |a::_,c::_,h,0,v,hv=>by simp at hv;subst hv;exact h.1
 |_::_,_::_,h,i+1,v,hv=>by simpa using ZP.at h.2 i v DU
 | [],_::_,h,_,_,_=>h.elim
 |_::_,[],h,_,_,_=>h.elim
theorem xR.lawL {P:Program} {f:Nat} {args:List AV} (h:xR P f args [] (.s (.bool true)) []) {cs:List Value} {w:World} (hr:ZP w args cs):Calls P f cs.toArray w λe w'=>e= .returned (.bool true)/\Below w.heap.size w w':=
 h.law (by simpa using hr.len) λi v hv=>by simpa [yBh,List.getD]using hr.at i v hv
theorem LIn.le {k:IntKind} {w:World} {A:Option Addr} {n c:Nat} {xs:List Int} (h:LIn k w A n c xs):xs.length<=9223372036854775807:=by
 obtain⟨h1,h2,h3,_⟩:=h;omega
end
def rem (d:Dk):Nat:=d.l.length-d.a
def wO (d:Dk):rem (ad d)<=rem d:=by unfold ad;split;(unfold rem;dsimp only;omega);exact yAg _
def zUb (d:Dk) (h:d.a<d.l.length):rem (ad d)+1<=rem d:=by unfold ad;rw[yFo h];unfold rem;dsimp only;omega
def zXa (l:List Int) (hl:l.length<=9223372036854775807):zN 9 [zC iA l] [] (bA (decide (l.length<=300))) []:=by
 have hll:=zA iA l;by_cases h:l.length<=300
 ·rw[yAj h];refine eM call9 λF hF=>?_
  refine WW ?_;exact zJ
 ·rw[yAl h];refine eM call9 λF hF=>?_
  refine WW ?_;exact zJ
def zH8 (d:Dk):zN 52 [.ptr 1000 0 0] [(1000,cT d)] (bA (decide (d.a<d.l.length))) [(1000,cT d)]:=by
 have hl:(d.l.map iA).length=d.l.length:=by simp
 refine eM call52 λF hF=>?_
 (repeat' (first|refine ZK ?_|refine xM (λhc=>?_) λhc=>?_|fail))
 refine zK [1000] Z Z (yBa bA ?_) Z;simp[qT]
structure TkP (l:List Tk):Prop where
 n:l.length=8
 y:∀t∈l,BY t.sec/\t.sec.length<=8/\(t.used=true->t.sec.length=8/\FG t.rights=true/\0<=t.til/\t.til<=2147483648)
 v:TV l
theorem TkP.b {l:List Tk} (h:TkP l):FH l:=⟨by have:=h.n;omega,λt ht=>by have:=(h.y t ht).2.1;omega⟩
def bF (l:List Vh) (id:Int):Vh:=(l.find? λv=>v.id==id).getD ⟨0,0⟩
def RI (l:List Vh) (id:Int):Bool:=l.any λv=>v.id==id
def zE8 {l pre post:List Vh} {x:Vh} {id:Int} (h:l=pre++x::post) (hn:∀y∈pre,y.id≠id) (hx:x.id=id):bF l id=x/\RI l id=true:=by
 subst h;have h1:pre.find? (λv=>v.id==id)=none:=yFb.2 λy hy=>by simpa using hn y hy
 refine⟨?_,by simp[RI,hx]⟩;unfold bF;rw[yF1,h1];simp[hx]
def zAm {l:List Vh} {id:Int} (hn:∀y∈l,y.id≠id):bF l id=⟨0,0⟩/\RI l id=false:=by
 have h1:l.find? (λv=>v.id==id)=none:=yFb.2 λy hy=>by simpa using hn y hy
 exact⟨by unfold bF;rw[h1];rfl,by simpa [RI]using hn⟩
def zO0 (l:List Vh) (id:Int) (hn:l.length<=1000000):yY [zC vQ l,iA id] [] (.tup [vQ (bF l id),bA (RI l id)]) []:=yF
def jH (l:List Vh) (c:Int):Nat:=(l.filter λv=>v.cls==c).length
def zH9 (l:List Vh) (c:Int) (hn:l.length<=1000000):yY [zC vQ l,iA c] [] (iA (jH l c)) []:=yF
def RJ (l:List Vh) (i:Nat):Bool:=decide (0<=(l.getD i default).id/\(l.getD i default).id<=4294967295/\0<=(l.getD i default).cls/\(l.getD i default).cls<=3/\(0<i->(l.getD (i-1) default).id<(l.getD i default).id))
def FF (l:List Vh):Bool:=((List.range l.length).all λi=>RJ l i)&&decide ((l.length:Int)<=8)
def zUc {l:List Vh} {i:Nat} (hi:i<l.length) (h:RJ l i=false):FF l=false:=by
 unfold FF;have:((List.range l.length).all λi=>RJ l i)=false:=yDd.2 ⟨i,yA2.2 hi,by simp[h]⟩;rw[this];simp
def zE9 (l:List Vh) (hn:l.length<=1000000):yY [zC vQ l] [] (bA (FF l)) []:=yF
def gE (k v:Int):Ms:=⟨14,[],[k,v],[]⟩
def IL (k v:Int):zN 203 [iA k,iA v] [] (yB (gE k v)) []:=by
 refine eM call203 λF hF=>?_
 refine WL ?_;exact zJ
def IM (l:List Tk):Nat:=(l.filter λt=>!t.used).length
def aZ (d:xJ):Ms:=⟨20,[],[(IM d.rg.tk:Int),8-(d.rg.vh.length:Int),d.rg.ag.req-(d.rq.length:Int),d.rg.bk.level],[]⟩
def zFa (pre:List Tk) (x:Tk):IM (pre++[x])=IM pre+(if x.used=true then 0 else 1):=by
 unfold IM;rw[yDx,yAf]
 cases hu:x.used<;>simp[hu]
def zO1 (d:xJ) (hb:dH d) (h0:0<=d.rg.ag.req) (h1:d.rg.ag.req<=1000):yY [zL d] [] (yB (aZ d)) []:=yF
def zAn (d:xJ) (k now:Int) (hk1:k≠1) (hk9:k≠9) (hb:dH d) (h0:0<=d.rg.ag.req) (h1:d.rg.ag.req<=1000):zN 204 [zL d,iA k,iA now] [] (yB (aZ d)) []:=by
 have hq:=hb.q;have hn:=hb.rg.tk.n;have hv:=hb.rg.v;have hlt:=zA xB d.rg.tk;have hlv:=zA vQ d.rg.vh;have hlq:=zA yL d.rq;unfold aZ;rw[<-hlv,<-hlq];unfold zL wJ;refine eM call204 λF hF=>?_
 refine WW ?_;refine yM (d.rg.tk) [3,6] [3,6] [3,6,45,46] [10,47,3,6,45,46] Z (λi pre T U=>⟨(10,iA (IM pre))::(47,iA i)::T,U⟩) ?_;(conv=>whnf);refine⟨by rfl,?_,?_⟩
 ·intro i pre x post hx hi;have hy:=xG xB hx hi;have hlt2:=yP hx hi;have hle:IM pre<=i:=by rw[<-hi];exact yCo _ _
  have e:=zFa pre x;clear hx
  cases hu:x.used with
  |true=>
   rw[hu,yAd Z,yDm]at e;rw[e];generalize IM pre=m at *;obtain⟨us,sec,par,ri,cl,ti⟩:=x;cases hu;refine WW ?_;rfl
  |false=>
   rw[hu,yAc yAx]at e;rw[e];generalize IM pre=m at *;obtain⟨us,sec,par,ri,cl,ti⟩:=x;cases hu;refine WW ?_;rfl
 ·(refine WL ?_)
  exact zJ
def OS (d:xJ) (now:Int):Ms:=⟨13,[],[d.rg.num,now],[]⟩
def EK (d:xJ) (now:Int):zN 204 [zL d,iA 1,iA now] [] (yB (OS d now)) []:=by
 unfold OS zL wJ;refine eM call204 λF hF=>?_
 refine WL ?_;exact zJ
def fG (l:List Rq):List Int:=(l.map λr=>[r.id,r.til]).flatten
def OT (d:xJ):Ms:=⟨19,[],fG d.rq,[]⟩
def zAo (pre:List Rq) (x:Rq):(fG (pre++[x])).map iA=(fG pre).map iA++[iA x.id,iA x.til]:=by simp[fG]
theorem RK:∀l:List Rq,(fG l).length=2*l.length
 | []=>rfl
 |x::l=>by
  have:=RK l
  show(x.id::x.til::fG l).length=_
  rw[yAp,yAp,yAp];omega
def zAp (d:xJ) (now:Int) (hb:dH d):zN 204 [zL d,iA 9,iA now] [] (yB (OT d)) []:=by
 have hq:=hb.q;have hlq:=zA yL d.rq;unfold OT zL wJ;refine eM call204 λF hF=>?_
 refine WW ?_;refine vW 7 2 1001 1 Z Z Z Z Z ?_;refine yM (d.rq) [7,1001,6] [6] [6,7,26,27] [28,6,7,26,27] Z (λi pre T U=>⟨(28,iA i)::T,(7,.box [iA 19,.s (.slice none 0 0),.ref 1001 0 ((fG pre).map iA).length,.s (.slice none 0 0)])::(1001,.arr 1 ((fG pre).map iA) true)::U⟩) ?_;(conv=>whnf);refine⟨by rfl,?_,?_⟩
 ·intro i pre x post hx hi;have hy:=xG yL hx hi;have hlt2:=yP hx hi;have hle:=RK pre;have hlm:=zA iA (fG pre);have e:=zAo pre x;clear hx;rw[e];generalize (fG pre).map iA=xs at *;refine WW ?_;rfl
 ·(refine WW ?_)
  refine zH [] Z Z ?_ Z
  show AV.agg [iA 19,.sl false [],.sl false (((fG d.rq).map iA).take ((fG d.rq).map iA).length),.sl false []]=_
  rw[yAh];rfl
def zO2 (l:List Vh) (id:Int) (hn:l.length<=1000000):zN 243 [zC vQ l,iA id] [] (.tup [vQ (bF l id),bA (RI l id)]) []:=by
 have hl:=zA vQ l;refine eM call243 λF hF=>?_
 refine WW ?_;refine kO (l) [4] [] [1,4,8,9] [10,1,4,8,9] Z (λi pre T U zs=>(∀y∈pre,y.id≠id)/\zs=⟨(10,iA i)::T,(4,.box [.s (.int .i64 0),.s (.int .i64 0)])::U⟩) ?_;(conv=>whnf);refine⟨?_,?_,?_⟩
 ·exact⟨by simp,rfl⟩
 ·rintro i pre x post st hx hi ⟨hp,rfl⟩;have hy:=xG vQ hx hi;have hlt:=yP hx hi;by_cases he:x.id=id
  ·obtain⟨e1,e2⟩:=zE8 hx hp he;rw[e1,e2];clear hx;refine WW ?_;exact zJ
  ·clear hx;refine WW ?_;exact⟨λy hy=>by simp only[yAz,yBe]at hy;rcases hy with hy|rfl;exact hp y hy;exact he,rfl⟩
 ·rintro st ⟨hp,rfl⟩;obtain⟨e1,e2⟩:=zAm hp;rw[e1,e2];refine WW ?_;exact zJ
def zFb (l:List Rq) (q id:Int) (v:Vh) (life:Int) (x:List Lg) (now:Int) (hv:ZL l) (hq:(l.length:Int)<=q) (hb:¬((0<=v.id/\v.id<=4294967295)/\(0<=v.cls/\v.cls<=3))):
  zN 245 [zC yL l,iA q,iA id,vQ v,iA life,zC xW x,iA now] [] (.tup [zC yL [],iA 1]) []:=by
 have c1:=UR l q hv hq;have c2:=NG v.id;have c3:=zA4 v.cls;by_cases h1:0<=v.id/\v.id<=4294967295
 ·have h2:¬(0<=v.cls/\v.cls<=3):=λh=>hb ⟨h1,h⟩
  rw[yAj h1]at c2;rw[yAl h2]at c3;refine eM call245 λF hF=>?_
  refine yQ (gG c1 c2 c3) ?_;exact zJ
 ·rw[yAl h1]at c2;refine eM call245 λF hF=>?_
  refine yQ (wV c1 c2) ?_;exact zJ
structure Qd where
 j:Int
 p:Int
 f:Int
 t:Int
def q4 (q:Qd):List Int:=[q.j,q.p,q.f,q.t]
def XR (qs:List Qd):List Int:=(qs.map q4).flatten
def OU (c:Cf) (now:Int) (q:Qd):Bool:=decide (q.j<(c.js.length:Int))&&(decide (q.p<((c.js.getD q.j.toNat default).ph.length:Int))&&mwB q.j q.p q.f q.t now)
def IN (now:Int) (q:Qd):Lg:=mwF q.j q.p q.f q.t now
def zIa (v:Vh):Bool:=decide ((0<=v.id/\v.id<=4294967295)/\(0<=v.cls/\v.cls<=3))
def sxE (l:List Rq) (q id life:Int) (v:Vh) (x:List Lg):Int:=if(l.length:Int)<=q then(if zIa v=true then suE l q id life x else 1)else 1
def sxL (l:List Rq) (q id life now:Int) (v:Vh) (x:List Lg):List Rq:=if sxE l q id life v x=0 then ZE l (aF id v life x now)else []
def zZh (l:List Rq) (q id:Int) (v:Vh) (life:Int) (x:List Lg) (now:Int) (hv:ZL l) (n0:0<=now) (n1:now<=1073741824):
  zN 245 [zC yL l,iA q,iA id,vQ v,iA life,zC xW x,iA now] [] (.tup [zC yL (sxL l q id life now v x),iA (sxE l q id life v x)]) []:=by
 unfold sxL sxE;by_cases hq:(l.length:Int)<=q
 ·rw[yAd hq];by_cases hb:(0<=v.id/\v.id<=4294967295)/\(0<=v.cls/\v.cls<=3)
  ·have hv1:zIa v=true:=yAj hb;rw[yAd hv1];exact zI7 l q id v life x now hv hq hb.1.1 hb.1.2 hb.2.1 hb.2.2 n0 n1
  ·have hv1:¬zIa v=true:=λh=>hb (yEy h)
   rw[yAc hv1,yAc xL];exact zFb l q id v life x now hv hq hb
 ·rw[yAc hq,yAc xL];exact zFg l q id v life x now hv hq
theorem PM:∀qs:List Qd,(XR qs).length=4*qs.length
 | []=>rfl
 |x::l=>by
  have:=PM l
  show(x.j::x.p::x.f::x.t::XR l).length=_
  simp only[yAp];omega
def zO3 (a b:List Qd):XR (a++b)=XR a++XR b:=by simp[XR]
def zIb (x y z:Int) (pre post:List Qd) (i:Nat) (hi:pre.length=i):(x::y::z::XR (pre++post)).drop (3+4*i)=XR post:=by
 rw[zO3,show 3+4*i=4*i+1+1+1 by omega,yD0,yD0,yD0,yEw (by rw[PM];omega),yEv (by rw[PM];omega),yCc]
def YW {α:Type} {l:List α} {n:Nat} {r:List α} (h:l.drop n=r) (k:Nat):l[n+k]? =r[k]? :=by rw[<-h,yB3]
def zXb (x y z:Int) (pre post:List Qd) (q:Qd) (I:Int) (hI:I=3+4*(pre.length:Int)):
  ((x::y::z::XR (pre++q::post)).map iA)[I.toNat]? =some (iA q.j)/\((x::y::z::XR (pre++q::post)).map iA)[(I+1).toNat]? =some (iA q.p)/\((x::y::z::XR (pre++q::post)).map iA)[(I+2).toNat]? =some (iA q.f)/\((x::y::z::XR (pre++q::post)).map iA)[(I+3).toNat]? =some (iA q.t):=by
 have h:=zIb x y z pre (q::post) pre.length Z
 refine⟨?_,?_,?_,?_⟩<;>rw[yAi]
 ·rw[show I.toNat=3+4*pre.length+0 by omega,YW h];rfl
 ·rw[show(I+1).toNat=3+4*pre.length+1 by omega,YW h];rfl
 ·rw[show(I+2).toNat=3+4*pre.length+2 by omega,YW h];rfl
 ·rw[show(I+3).toNat=3+4*pre.length+3 by omega,YW h];rfl
def dsE (c:Cf) (d:xJ) (cls id v life now:Int) (qs:List Qd):Int:=
 if RI d.rg.vh v=true then(if cls<(bF d.rg.vh v).cls then 17 else if qs.all (OU c now)=true then sxE d.rq d.rg.ag.req id life (bF d.rg.vh v) (qs.map (IN now))else 8)else 12
def dsL (c:Cf) (d:xJ) (cls id v life now:Int) (qs:List Qd):List Rq:=
 if dsE c d cls id v life now qs=0 then ZE d.rq (aF id (bF d.rg.vh v) life (qs.map (IN now)) now)else []
def zUd {α:Type} {p:α->Bool} {pre post:List α} {x:α} (h:p x=false):¬(pre++x::post).all p=true:=by
 simp[h]
theorem zFc (c:Cf) (d:xJ) (id v life slot now:Int) (qs:List Qd) (hb:dH d) (hv:ZL d.rq) (s0:0<=slot) (s1:slot<(d.rg.tk.length:Int)) (hq:qs.length<=3) (hp:∀q∈qs,0<=q.j/\0<=q.p) (n0:0<=now) (n1:now<=1073741824):
  zN 222 [wD c,zL d,zC iA (id::v::life::XR qs),iA slot,iA now] [] (.tup [zC yL (dsL c d (d.rg.tk.getD slot.toNat default).cls id v life now qs),iA (dsE c d (d.rg.tk.getD slot.toNat default).cls id v life now qs)]) []:=by
 have hfv:=zO2 d.rg.vh v (by have:=hb.rg.v;omega);have hlt:=zA xB d.rg.tk;have hyt:=yN xB d.rg.tk slot s0 s1;have hsx:=zZh d.rq d.rg.ag.req id (bF d.rg.vh v) life (qs.map (IN now)) now hv n0 n1;have hll:((id::v::life::XR qs).map iA).length=3+4*qs.length:=by simp[PM];omega
 have hlj:=zA wC c.js;have hnt:=hb.rg.tk.n;unfold dsL dsE;unfold wD zL wJ;generalize (d.rg.tk.getD slot.toNat default)=t at *;rw[show xB t= .agg [bA t.used,zC yA t.sec,iA t.par,iA t.rights,iA t.cls,iA t.til]from Z]at hyt;generalize RI d.rg.vh v=hv1 at*
 cases hv1 with
 |false=>
  rw[yAc yAx,yAc xL];refine eM call222 λF hF=>?_
  refine zV hfv ?_;exact zJ
 |true=>
 rw[yAd Z];generalize bF d.rg.vh v=vh at *;unfold vQ at hfv hsx;by_cases hcl:t.cls<vh.cls
 ·rw[yAd hcl,yAc xL];refine eM call222 λF hF=>?_
  refine zV hfv ?_;exact zJ
 rw[yAc hcl];refine eM call222 λF hF=>?_
 refine zV hfv ?_;refine xC 15 1001 5 Z Z Z ?_;refine jZ (qs.length) [1001,5,6,12] [5,6,12] [2,4,5,6,12] [15,16,2,4,5,6,12] Z (λzn T U zs=>∃(pre:List Qd) (post:List Qd),(qs=pre++post/\zn=post.length/\pre.all (OU c now)=true)/\zs=⟨(15,.ref 1001 0 (pre.map λq=>xW (IN now q)).length)::(16,iA (3+4*(pre.length:Int)))::T,(1001,.arr 5 (pre.map λq=>xW (IN now q)) true)::U⟩) ?_;(conv=>whnf);refine⟨?_,?_⟩
 ·exact⟨[],qs,⟨rfl,rfl,rfl⟩,rfl⟩
 ·rintro zn st ⟨pre,post,⟨hqs,hzn,hok⟩,rfl⟩;have hln:qs.length=pre.length+post.length:=by rw[hqs,yAf]
  have hpl:=zA (λq=>xW (IN now q)) pre
  cases post with
  |nil=>
   rw[yA8]at hqs;subst hqs;rw[yAd hok];rw[yBk]at hln hzn;have e1:(qs.map λq=>xW (IN now q))=(qs.map (IN now)).map xW:=by rw[yEz];rfl
   unfold sxL at hsx;rw[e1]at *; generalize qs.map (IN now)=ls at *;generalize sxE d.rq d.rg.ag.req id life vh ls=e at *;generalize ZE d.rq (aF id vh life ls now)=il at *;generalize hI:3+4*(qs.length:Int)=I at *;rw[show(id::v::life::XR qs).map iA=iA id::iA v::iA life::(XR qs).map iA from Z]at *; generalize (XR qs).map iA=A at *;refine WD ?_;refine uM [5,6,12] [2,4,5,6,12,15] Z ?_
   (conv=>whnf)
   simp only[yBf,yAh];refine zV hsx ?_;exact zJ
  | cons q post=>
   have hpq:=hp q (by rw[hqs];simp);obtain⟨y0,y1,y2,y3⟩:=zXb id v life pre post q _ Z;rw[<-hqs]at y0 y1 y2 y3;rw[yAp]at hln hzn;have hno:OU c now q=false->¬qs.all (OU c now)=true:=λh=>by rw[hqs];exact zUd h
   have hyes:OU c now q=true->(pre++[q]).all (OU c now)=true:=λh=>by rw[List.all_append,hok,yGj,h];rfl
   have hmp:((pre++[q]).map λq=>xW (IN now q))=(pre.map λq=>xW (IN now q))++[xW (IN now q)]:=by simp
   have hw:=zDb q.j q.p q.f q.t now;rw[show OU c now q=(decide (q.j<(c.js.length:Int))&&(decide (q.p<((c.js.getD q.j.toNat default).ph.length:Int))&&mwB q.j q.p q.f q.t now))from Z]at hno hyes;generalize hA:(id::v::life::XR qs).map iA=A at *;have hA2:zC iA (id::v::life::XR qs)= .sl false A:=by rw[<-hA];rfl
   have hI:0<=3+4*(pre.length:Int)/\3+4*(pre.length:Int)+4=3+4*((pre++[q]).length:Int)/\3+4*(pre.length:Int)+3<A.length:=⟨zB,by simp;omega,zB⟩;by_cases g1:q.j<(c.js.length:Int)
   case neg=>
    rw[yAl g1]at hno;rw[yAc (hno Z),yAc xL];generalize 3+4*(pre.length:Int)=I at *;clear hno hyes hw hmp hqs;refine WW ?_;exact zJ
   have hyj:=yN wC c.js q.j hpq.1 g1;rw[yAj g1]at hno hyes;rw[show wC (c.js.getD q.j.toNat default)= .agg [zC vE (c.js.getD q.j.toNat default).ph,zC iA (c.js.getD q.j.toNat default).cf,iA (c.js.getD q.j.toNat default).st]from Z]at hyj;generalize c.js.getD q.j.toNat default=jn at *;have hlp:=zA vE jn.ph;by_cases g2:q.p<(jn.ph.length:Int)
   case neg=>
    rw[yAl g2]at hno;rw[yAc (hno Z),yAc xL];generalize 3+4*(pre.length:Int)=I at *;clear hno hyes hw hmp hqs;refine WW ?_;exact zJ
   rw[yAj g2]at hno hyes
   cases g3:mwB q.j q.p q.f q.t now with
   |false=>
    rw[g3]at hno hw;rw[yAc yAx]at hw;rw[yAc (hno Z),yAc xL];generalize 3+4*(pre.length:Int)=I at *;generalize mwF q.j q.p q.f q.t now=lg at *;clear hno hyes hmp hqs;refine zV hw ?_;exact zJ
   |true=>
    rw[g3]at hyes hw;rw[yAd Z]at hw;have hy2:=hyes Z;obtain⟨hI0,hI1,hI2⟩:=hI;have hfin:qs=(pre++[q])++post:=by rw[hqs];simp
    rw[show mwF q.j q.p q.f q.t now=IN now q from Z]at hw;generalize IN now q=lg at *;clear hno hyes hqs;generalize hqq:pre++[q]=pq at *;generalize (pre.map λq=>xW (IN now q))=xs at *;generalize 3+4*(pre.length:Int)=I at *;refine zV hw ?_;exact⟨post.length,zB,pq,post,⟨hfin,rfl,hy2⟩,by rw[hmp,<-hI1];rfl⟩
def dkQ (d:xJ) (l:List Rq):xJ:=⟨d.rg,l,d.dr,d.au⟩
def zAq (c:Cf) (d:xJ) (k:Int) (tkn:List Int) (id v life cls now:Int) (qs:List Qd) (hb:dH d) (hv:ZL d.rq) (hq:qs.length<=3) (hp:∀q∈qs,0<=q.j/\0<=q.p) (n0:0<=now) (n1:now<=1073741824):
 yY [wD c,zL d,yB ⟨k,tkn,id::v::life::XR qs,[]⟩,iA cls,iA now] [] (.tup [zL (dkQ d (if dsE c d cls id v life now qs=0 then dsL c d cls id v life now qs else d.rq)),iA (dsE c d cls id v life now qs)]) []:=yF
end Av
end Go.Proofs.YteajjdidebfcjaaGreat
