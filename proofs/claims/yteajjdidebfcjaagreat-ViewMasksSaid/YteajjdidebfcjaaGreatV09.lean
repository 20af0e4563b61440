/- Part 9. -/
import Derived.Test.YteajjdidebfcjaaGreatV08
import Derived.WalkKit
import Derived.ProofKit
namespace Go.Proofs.YteajjdidebfcjaaGreat
namespace Av
open Tryz
set_option linter.all false
set_option maxRecDepth 4000
set_option maxHeartbeats 2000000
def tkN (a:Ag):List Tk:=⟨true,a.sec,-1,a.rights,a.cls,0⟩::List.replicate 7 frT
def zT:AV:= .agg [.s (.bool false),.s (.slice none 0 0),.s (.int .i64 0),.s (.int .i64 0),.s (.int .i64 0),.s (.int .i64 0)]
def BQ (i:Nat):List AV:=List.replicate i (yY frT)++List.replicate (8-i) zT
def zTr (i:Nat) (h:i<8):(BQ i)[i]? =some zT:=by
 unfold BQ;rw[zYt zW];simp[show 0<8-i by omega]
def zO0 (i:Nat) (h:i<8):(BQ i).set i (yY frT)=BQ (i+1):=by
 unfold BQ;rw[show 8-i=(8-(i+1))+1 by omega,yB1 (n:=8-(i+1)),yAy _ _ zW,zZs,yAa,yB4,yDb (n:=i),zYw];rfl
def zTs (a:Ag) (hs:a.sec.length<=1000000):zO 124 [vU a] [] (zD yY (tkN a)) []:=by
 have cf:=zAd;have cs:=wK a.sec zB;obtain⟨N,hN⟩:∃N:Nat,N=8:=⟨8,rfl⟩;refine eM call124 λF hF=>?_
 refine WW ?_;refine zS (N) [5,1] [1] [1] [8,7,3,1] Z (λi T U=>⟨(8,iA i)::(7,iA N)::(3,.ref 5 0 N)::T,(5,.arr 6 (BQ i) false)::U⟩) ?_;(conv=>whnf);refine⟨by(rw[hN];rfl),?_,?_⟩
 ·intro i hi;have hy:=zTr i zB;have e:=zO0 i zB;have hln:(BQ i).length=8:=by unfold BQ;simp;omega
  generalize BQ i=xs at *;generalize BQ (i+1)=ys at *;subst e;unfold zT at hy;refine zY cf ?_;rfl
 ·rw[show BQ N=BQ 8 by rw[hN]];have hy:(BQ 8)[0]? =some (yY frT):=rfl;have e8:(BQ 8).set 0 (yY ⟨true,a.sec,-1,a.rights,a.cls,0⟩)=(tkN a).map yY:=rfl;have hln:(BQ 8).length=8:=rfl;generalize BQ 8=xs at *;unfold yY at hy;refine zY cs ?_;exact zI [] Z Z (zY3 (AV.sl false) ((zYe xX).trans e8)) Z
def CE (n:Int) (a:Ag):Rg:=⟨n,a,tkN a,[],⟨a.burst,a.rate,a.burst⟩⟩
def zTt (n:Int) (a:Ag) (hs:a.sec.length<=1000000) (hl:a.lim.length<=1000000):zO 92 [iA n,vU a] [] (qW (CE n a)) []:=by
 have c1:=EQ a hs hl;have c2:=zTs a hs;have c3:=zS4 a.rate a.burst;unfold CE;generalize tkN a=tk at *;refine eM call92 λF hF=>?_
 refine yR (fQ c1 c2 c3) ?_;exact zJ
def zJ8 (g s:Int) (l:List Int) (hl:l.length<=1000000) (g0:0<=g) (g1:g<256) (s0:0<=s) (s1:s<256):zO 51 [iA g,iA s,zD yA l] [] (zD yA (g::s::l)) []:=by
 have hll:=zA yA l;refine eM call51 λF hF=>?_
 refine WW ?_;exact zI [] Z Z (zY3 (AV.sl false) (zYe zW)) Z
def zTu (a b:List Int):zO 233 [zD yA a,zD yA b] [] (bA (eqY a b)) []:=by
 refine eM call233 λF hF=>?_
 refine WW ?_;exact zJ
def zJ9 (l:List Tk) (b:List Int):Tk:=l.getD (b.getD 1 default).toNat default
def ckB (l:List Tk) (g:Int) (b:List Int) (k now:Int):Bool:=decide ((b.length:Int)=10/\b.getD 0 default=g)&&dW l (b.getD 1 default)&&(eqY (b.drop 2) (zJ9 l b).sec&& !exF (zJ9 l b) now&&peF (zJ9 l b).rights k)
def zO1 (l:List Tk) (g:Int) (b:List Int) (k now:Int) (hb:BY b):zO 218 [zD yY l,iA g,zD yA b,iA k,iA now] [] (.tup [iA (if ckB l g b k now=true then b.getD 1 default else 0),iA (if ckB l g b k now=true then 0 else 9)]) []:=by
 have hll:=zA yA b;have hlt:=zA yY l;by_cases h1:(b.length:Int)=10
 case neg=>
  have e:ckB l g b k now=false:=by unfold ckB;rw[zYb (λh=>h1 h.1)];rfl
  rw[e];refine eM call218 λF hF=>?_
  refine WW ?_;exact zJ
 have hy0:=yN yA b 0 zB zB;have hy1:=yN yA b 1 zB zB;have b0:0<=b.getD 0 default/\b.getD 0 default<256:=hb _ zQ0;have b1:0<=b.getD 1 default/\b.getD 1 default<256:=hb _ zQ0
 change (b.map yA)[0]? =some (yA (b.getD 0 default))at hy0
 change (b.map yA)[1]? =some (yA (b.getD 1 default))at hy1
 unfold ckB zJ9;generalize b.getD 0 default=x0 at *;generalize b.getD 1 default=x1 at *;by_cases h2:x0=g
 case neg=>
  rw[zYb (λh=>h2 h.2)];refine eM call218 λF hF=>?_
  refine WW ?_;exact zJ
 rw[zYa ⟨h1,h2⟩];have cu:=zAc l x1;cases hu:dW l x1
 ·rw[hu]at cu;refine eM call218 λF hF=>?_
  refine zY cu ?_;exact zJ
 rw[hu]at cu;obtain⟨u0,u1⟩:=VN hu;have hyt:=yN yY l x1 u0 u1;generalize l.getD x1.toNat default=t at *;have ce:=zTu (b.drop 2) t.sec;have cx:=LR t now;have cp:=zEm t.rights k;generalize eqY (b.drop 2) t.sec=q1 at *;generalize exF t now=q2 at *;generalize peF t.rights k=q3 at*
 cases q1<;>cases q2<;>cases q3<;>((refine eM call218 λF hF=>?_);(refine yR (XU cu ce cx cp) ?_);exact zJ)
def rgZ:Rg:=⟨0,⟨[],0,0,[],0,0,0,0⟩,[],[],⟨0,0,0⟩⟩
def KH (k:Int):Bool:=decide (2<=k/\k<=8)
def opE (r:Rg) (m:Ms) (now:Int):Int:=if ckB r.tk r.num m.tok m.kind now=true then(if KH m.kind=true/\r.bk.level<=0 then 13 else 0)else 9
def opR (r:Rg) (m:Ms) (now:Int):Rg:=if opE r m now=0 then(if KH m.kind=true then⟨r.num,r.ag,r.tk,r.vh,EO r.bk⟩else r)else rgZ
def opS (r:Rg) (m:Ms) (now:Int):Int:=if opE r m now=0 then m.tok.getD 1 default else 0
def zTv (r:Rg) (m:Ms) (now:Int) (hr:ER r) (hm:BY m.tok) (hl:r.bk.level<=1000000):zO 200 [qW r,yF m,iA now] [] (.tup [qW (opR r m now),iA (opS r m now),iA (opE r m now)]) []:=by
 have c1:=zO1 r.tk r.num m.tok m.kind now hm;have c2:=cE r hr;have c3:=zOc r.bk zB;unfold opR opS opE
 cases hc1:ckB r.tk r.num m.tok m.kind now<;>rw[hc1]at c1
 ·(refine eM call200 λF hF=>?_)
  refine zY c1 ?_;exact zJ
 ·generalize m.tok.getD 1 default=slot at *;cases hk:KH m.kind
  ·have hk':¬(2<=m.kind/\m.kind<=8):=of_decide_eq_false hk;refine eM call200 λF hF=>?_
   refine yR (wZ c1 c2) (I2 (λhc=>?_) λhc=>?_)
   all_goals (first|exact zXO|exact zJ)
  ·have hk':2<=m.kind/\m.kind<=8:=yB8 hk;by_cases hv:r.bk.level<=0
   ·rw[zYb zB]at c3;simp only[hv,and_self,yDq];refine eM call200 λF hF=>?_
    refine yR (fQ c1 c2 c3) ?_;exact zJ
   ·rw[zYa zB]at c3;simp only[hv,yD6,if_false,yDq];generalize hb:EO r.bk=b2 at *;refine eM call200 λF hF=>?_
    refine yR (fQ c1 c2 c3) ?_;exact zJ
def rtF (r:Rg) (now:Int):Rg:=⟨r.num,r.ag,NN r.tk now,r.vh,btF r.bk⟩
def zO2 (r:Rg) (now:Int) (hr:ER r) (hl: -1000000<=r.bk.level+r.bk.rate/\r.bk.level+r.bk.rate<=1000000):zO 130 [qW r,iA now] [] (qW (rtF r now)) []:=by
 have c1:=cE r hr;have c2:=zKw r.tk hr.tk now;have c3:=zOb r.bk zB;unfold rtF;generalize NN r.tk now=tk at *;generalize btF r.bk=bk at *;refine eM call130 λF hF=>?_
 refine yR (fQ c1 c2 c3) ?_;exact zJ
def zA2 (l:List Tk) (hb:GJ l):yV [zD yY l] [] (.ref 1001 0 (l.map yY).length) [(1001,.arr 6 (l.map yY) false)]:=yI
def PJ (r:Rg) (hb:ER r):yV [qW r] [] (qW r) []:=yI
def HB (r:Rg) (hb:ER r):zO 165 [qW r] [] (qW r) []:=by
 have hs:=hb.s;have hlm:=hb.l;have k1:=wK r.ag.sec zB;have k2:=UO r.ag.lim zB;have hn:=hb.tk.n;have hv:=hb.v;have c2:=WX r.tk zB;have c3:=EP r.vh zB;have hll:=zA yY r.tk;refine eM call165 λF hF=>?_
 refine yR (fQ k1 k2 c2) ?_;refine zS ((r.tk.map yY).length) [1001,1,2] [1,2] [1,2,22] [23,1,2,22] Z (λi T U=>⟨(23,iA i)::T,(1001,.arr 6 (jQ i (r.tk.map yY)) false)::U⟩) ?_;(conv=>whnf);refine⟨by rfl,?_,?_⟩
 ·intro i hi;have hi':i<r.tk.length:=by omega
  have hy:(jQ i (r.tk.map yY))[i]? =some (yY (r.tk.getD i default)):=zM yY r.tk i hi';have e:=jD yY r.tk i hi';have c2:=wK (r.tk.getD i default).sec (by have:=hb.tk.s (r.tk.getD i default) ZK;omega);generalize (r.tk.getD i default)=t at *;generalize jQ i (r.tk.map yY)=xs at *;generalize jQ (i+1) (r.tk.map yY)=ys at *;subst e;refine zY c2 ?_;rfl
 ·(refine zY c3 ?_)
  exact zI [] Z Z (zY3 (rgX r) zX6) Z
structure xI where
 rg:Rg
 rq:List Rq
 dr:List (List Int)
 au:List Bool
def kE (l:List Int):AV:=zD yA l
def wI (r:Rg) (a b c:AV):AV:= .agg [iA r.num,zD yA r.ag.sec,iA r.ag.rights,iA r.ag.cls,zD iA r.ag.lim,iA r.ag.req,iA r.ag.ses,iA r.ag.rate,iA r.ag.burst,zD yY r.tk,zD vY r.vh,iA r.bk.level,iA r.bk.rate,iA r.bk.burst,a,b,c]
def zK (d:xI):AV:=wI d.rg (zD yL d.rq) (zD kE d.dr) (zD bA d.au)
structure cO (d:xI):Prop where
 rg:ER d.rg
 q:d.rq.length<=1000
 g:∀r∈d.rq,r.legs.length<=1000
 n:d.dr.length<=1000
 e:∀b∈d.dr,b.length<=1000
 a:d.au.length<=1000
def VL (l:List Rq) (hl:l.length<=1073741824):zO 166 [zD yL l] [] (.ref 1001 0 (l.map yL).length) [(1001,.arr 5 (l.map yL) false)]:=by
 have hll:=zA yL l;refine eM call166 λF hF=>?_
 refine yX 0 Z (λcap hx=>?_) ?_
 ·have:l=[]:=by simpa using hx
  subst this
  (repeat' (first|refine WZN ?_|apply xL|apply wB|intro hc|fail))
  refine uK 2 1001 5 Z Z Z (yU ?_);exact zL [1001] Z Z Z Z
 ·repeat' (first|(refine zE ?_;first|refine wL tok Z Z ?_|(refine xM ?_;refine zP (yG tok (.inl ⟨rfl,rfl⟩) Z Z Z Z) Z ?_)|(refine xR ?_;refine qE (nw:=[1001]) (yK tok 1001 (xs:=[]) Z Z Z Z Z Z Z Z Z) Z Z Z ?_)|(refine yD ?_;refine xF tok Z Z Z Z Z Z Z (zN _ _ (λ_=>rfl)) Z Z Z zB Z ?_)|refine uI ?_)|(first|refine xS ?_|refine xC ?_|refine vQ Z ?_|refine yC Z ?_|refine zU Z ?_|refine xH Z (λhc=>?_) λhc=>?_|refine yZ ?_|refine yU ?_|refine xB ?_|refine yQ ?_))
  exact zL [1001] Z Z Z Z
def NG (l:List (List Int)) (hl:l.length<=1073741824):zO 168 [zD kE l] [] (.ref 1002 0 (l.map kE).length) [(1002,.arr 1 (l.map kE) false)]:=by
 have hll:=zA kE l;refine eM call168 λF hF=>?_
 refine yX 0 Z (λcap hx=>?_) ?_
 ·have:l=[]:=by simpa using hx
  subst this
  (repeat' (first|refine WZN ?_|apply xL|apply wB|intro hc|fail))
  refine uK 2 1002 1 Z Z Z (yU ?_);exact zL [1002] Z Z Z Z
 ·repeat' (first|(refine zE ?_;first|refine wL tok Z Z ?_|(refine xM ?_;refine zP (yG tok (.inl ⟨rfl,rfl⟩) Z Z Z Z) Z ?_)|(refine xR ?_;refine qE (nw:=[1002]) (yK tok 1002 (xs:=[]) Z Z Z Z Z Z Z Z Z) Z Z Z ?_)|(refine yD ?_;refine xF tok Z Z Z Z Z Z Z (zN _ _ (λ_=>rfl)) Z Z Z zB Z ?_)|refine uI ?_)|(first|refine xS ?_|refine xC ?_|refine vQ Z ?_|refine yC Z ?_|refine zU Z ?_|refine xH Z (λhc=>?_) λhc=>?_|refine yZ ?_|refine yU ?_|refine xB ?_|refine yQ ?_))
  exact zL [1002] Z Z Z Z
def CF (l:List Bool) (hl:l.length<=1073741824):zO 169 [zD bA l] [] (zD bA l) []:=by
 have hll:=zA bA l;refine eM call169 λF hF=>?_
 refine yX 0 Z (λcap hx=>?_) ?_
 ·have:l=[]:=by simpa using hx
  subst this;refine WW ?_;exact zJ
 ·(refine WW ?_)
  refine zI [] Z Z (cY _ _) Z
def aB (d:xI) (hb:cO d):zO 127 [zK d] [] (zK d) []:=by
 have k1:=HB d.rg hb.rg;have hq:=hb.q;have hdn:=hb.n;have hau:=hb.a;have k2:=VL d.rq zB;have k3:=NG d.dr zB;have k4:=CF d.au zB;have hlq:=zA yL d.rq;have hld:=zA kE d.dr;unfold zK wI;unfold qW at k1;refine eM call127 λF hF=>?_
 refine yR (wZ k1 k2) ?_;refine zS ((d.rq.map yL).length) [1001,1,2] [1,2] [1,2,15] [16,1,2,15] Z (λi T U=>⟨(16,iA i)::T,(1001,.arr 5 (jQ i (d.rq.map yL)) false)::U⟩) ?_;(conv=>whnf);refine⟨by rfl,?_,?_⟩
 ·intro i hi;have hi':i<d.rq.length:=by omega
  have hy:(jQ i (d.rq.map yL))[i]? =some (yL (d.rq.getD i default)):=zM yL d.rq i hi';have e:=jD yL d.rq i hi';have c2:=bS (d.rq.getD i default).legs (hb.g (d.rq.getD i default) ZK);generalize (d.rq.getD i default)=t at *;generalize jQ i (d.rq.map yL)=xs at *;generalize jQ (i+1) (d.rq.map yL)=ys at *;subst e;refine zY c2 ?_;rfl
 ·(refine zY k3 ?_)
  refine zS ((d.dr.map kE).length) [1002,1,2,1001] [1,2,1001] [1,2,38] [39,1,2,38] Z (λi T U=>⟨(39,iA i)::T,(1002,.arr 1 (jQ i (d.dr.map kE)) false)::U⟩) ?_;(conv=>whnf);refine⟨by rfl,?_,?_⟩
  ·intro i hi;have hi':i<d.dr.length:=by omega
   have hy:(jQ i (d.dr.map kE))[i]? =some (kE (d.dr.getD i default)):=zM kE d.dr i hi';have e:=jD kE d.dr i hi';have c2:=wK (d.dr.getD i default) (by have:=hb.e (d.dr.getD i default) ZK;omega);generalize (d.dr.getD i default)=t at *;generalize jQ i (d.dr.map kE)=xs at *;generalize jQ (i+1) (d.dr.map kE)=ys at *;subst e;refine zY c2 ?_;rfl
  ·(refine zY k4 ?_)
   refine zI [] Z Z ?_ Z
   show wI d.rg (.sl false ((d.rq.map yL).take (d.rq.map yL).length)) (.sl false ((d.dr.map kE).take (d.dr.map kE).length)) (zD bA d.au)=_
   rw[zX6,zX6];rfl
def gE (d:xI) (hb:cO d):yV [zK d] [] (zK d) []:=yI
def zKa (t:Tk):Bool:=decide ((t.sec.length:Int)=8/\0<=t.cls/\t.cls<=3/\0<=t.til/\t.til<=2147483648)
def soF (t:Tk):Bool:=GI t.rights&&zKa t
def HC (t:Tk):zO 291 [yY t] [] (bA (soF t)) []:=by
 have c:=XB t.rights;have hl:=zA yA t.sec;unfold soF;generalize GI t.rights=v at *;cases v
 ·rw[zZv];refine eM call291 λF hF=>?_
  refine zY c (I2 (λhc=>?_) λhc=>?_)
  all_goals exact zJ
 ·rw[zYr]
  (cases hb:zKa t with|false=>((refine eM call291 λF hF=>?_);((refine zY c (I5 (λhc hc hc hc=>?_) (λhc hc hc hc=>?_) (λhc hc hc=>?_) (λhc hc=>?_) λhc=>?_)));all_goals (first|exact zJ|(simp only[zKa,zYj]at hb;first|exact zXO|exact BP)))|true=>(simp only[zKa,zX9]at hb;(refine eM call291 λF hF=>?_);((refine zY c ?_));all_goals (first|exact zJ|exact zXO|exact BP)))
def CG (t:Tk):Bool:=decide ((t.sec.length:Int)=0/\t.par= -1/\t.rights=0/\t.cls=0/\t.til=0)
def MG (u:Bool) (t:Tk):AV:= .agg [bA u,zD yA t.sec,iA t.par,iA t.rights,iA t.cls,iA t.til]
def zKb (t:Tk):zO 292 [MG false t] [] (bA (CG t)) []:=by
 have hl:=zA yA t.sec
 (cases hb:CG t with|false=>((refine eM call292 λF hF=>?_);((refine WW (I5 (λhc hc hc hc=>?_) (λhc hc hc hc=>?_) (λhc hc hc=>?_) (λhc hc=>?_) λhc=>?_)));all_goals (first|exact zJ|(simp only[CG,zYj]at hb;first|exact zXO|exact BP)))|true=>(simp only[CG,zX9]at hb;(refine eM call292 λF hF=>?_);((refine WW ?_));all_goals (first|exact zJ|exact zXO|exact BP)))
def NH (l:List Tk) (s:Int):Bool:=if(l.getD s.toNat default).used=true then soF (l.getD s.toNat default)&&deF l s 0&&(wiF (l.getD s.toNat default).rights (l.getD (l.getD s.toNat default).par.toNat default).rights&&decide ((l.getD s.toNat default).cls<=(l.getD (l.getD s.toNat default).par.toNat default).cls)&& !laF (l.getD s.toNat default).til (l.getD (l.getD s.toNat default).par.toNat default).til)
 else CG (l.getD s.toNat default)
def KI (t:Tk):Bool:=t.used&&decide (t.par= -1/\t.til=0)&&soF t
def MY (l:List Tk):Bool:=decide ((l.length:Int)=8)&&(KI (l.getD 0 default)&&(List.range 7).all λi=>NH l ((i:Int)+1))
def zTw {l:List Tk} {i:Nat} (hi:i<7) (h:NH l ((i:Int)+1)=false):MY l=false:=by
 unfold MY;have:((List.range 7).all λi=>NH l ((i:Int)+1))=false:=yA4.2 ⟨i,zYs.2 hi,by simp[h]⟩;rw[this];simp
def zO3 {l:List Tk} {s:Int} (h:deF l s 0=true) (h0:s≠0):dW l (l.getD s.toNat default).par=true:=by
 unfold deF at h;rw[fZ l 7 s]at h
 cases hu:dW l s<;>rw[hu]at h
 ·simp at h
 ·rw[zZo,List.any_cons]at h;have:(s==0)=false:=by simpa using h0
  rw[this,yA7,fZ l 6]at h;cases hp:dW l (l.getD s.toNat default).par
  ·rw[hp]at h;simp at h
  ·rfl
theorem TQ (l:List Tk):zO 262 [zD yY l] [] (bA (MY l)) []:=by
 have hll:=zA yY l;by_cases h8:(l.length:Int)=8
 case neg=>
  rw[show MY l=false by unfold MY;rw[zYb h8];rfl];refine eM call262 λF hF=>?_
  refine WW ?_;exact zJ
 have hy0:=yN yY l 0 zB zB
 change (l.map yY)[0]? =some (yY (l.getD 0 default))at hy0
 cases hr:KI (l.getD 0 default)
 ·rw [show MY l=false by unfold MY;rw[hr];simp];have c:=HC (l.getD 0 default);unfold KI at hr;generalize l.getD 0 default=t at *;generalize soF t=q at *;cases hu:t.used
  ·rw[show yY t=MG false t by unfold yY MG;rw[hu]]at *; unfold MG at *;refine eM call262 λF hF=>?_
   refine zY c ?_;exact zJ
  ·rw[show yY t=MG true t by unfold yY MG;rw[hu]]at *; unfold MG at *;by_cases h1:t.par= -1
   ·by_cases h2:t.til=0
    ·rw[hu,zYa ⟨h1,h2⟩,zYr,zYr]at hr;subst hr;refine eM call262 λF hF=>?_
     refine zY c ?_;exact zJ
    ·(refine eM call262 λF hF=>?_)
     refine zY c ?_;exact zJ
   ·(refine eM call262 λF hF=>?_)
    refine zY c ?_;exact zJ
 have c0:=HC (l.getD 0 default);have hr':=hr;unfold KI at hr';simp only[zYg,zX9]at hr';obtain⟨⟨hu,h1,h2⟩,h3⟩:=hr';have hy0':=hy0;rw[h3]at c0;rw[show yY (l.getD 0 default)=MG true (l.getD 0 default) by unfold yY MG;rw[hu]]at hy0' c0;unfold MG at hy0' c0;clear hy0;generalize ht0:l.getD 0 default=t0 at hy0' c0 h1 h2;refine eM call262 λF hF=>?_
 refine zY c0 ?_;refine xT (7) [] [] [0] [4,0] Z (λi T U zs=>(∀s:Nat,s<i->NH l ((s:Int)+1)=true)/\zs=⟨(4,iA ((i:Int)+1))::T,U⟩) ?_;(conv=>whnf);refine⟨?_,?_,?_⟩
 ·exact⟨λs hs=>absurd hs (yAp _),rfl⟩
 ·rintro i st hi ⟨hp,rfl⟩
  have next:NH l ((i:Int)+1)=true->∀s:Nat,s<i+1->NH l ((s:Int)+1)=true:=λh s hs=>by
   by_cases hsi:s=i
   ·subst hsi;exact h
   ·exact hp s zB
  have stop:=λh=>zTw (l:=l) hi h
  have hy:=yN yY l ((i:Int)+1) zB zB;have c1:=HC (l.getD ((i:Int)+1).toNat default);have c2:=zKb (l.getD ((i:Int)+1).toNat default);have c3:=zKs l ((i:Int)+1) 0;have hpar:=zO3 (l:=l) (s:=(i:Int)+1);have htok:NH l ((i:Int)+1)=_:=rfl
  conv at htok=>rhs;unfold NH
  generalize l.getD ((i:Int)+1).toNat default=t at *;generalize NH l ((i:Int)+1)=tk at *;cases hu:t.used
  ·rw[show yY t=MG false t by unfold yY MG;rw[hu]]at hy;rw[hu,zX2 zW]at htok;rw[<-htok]at c2;unfold MG at hy c2;cases tk
   ·rw[stop Z];refine zY c2 ?_;exact zJ
   ·(refine zY c2 ?_)
    exact⟨next Z,by rw[Int.natCast_succ];rfl⟩
  ·rw[show yY t=MG true t by unfold yY MG;rw[hu]]at hy c1;rw[hu,zX3 Z]at htok;unfold MG at hy c1;generalize soF t=q1 at *;generalize hq2:deF l ((i:Int)+1) 0=q2 at *;cases q1
   ·rw[zZv,zZv]at htok;rw[stop htok];refine zY c1 ?_;exact zJ
   cases q2
   ·rw[zYr,zZv]at htok;rw[stop htok];refine yR (wZ c1 c3) ?_;exact zJ
   rw[zYr,zYr]at htok;obtain⟨p0,p1⟩:=VN (hpar Z zB);have hyp:=yN yY l t.par p0 p1;generalize l.getD t.par.toNat default=p at *;have c4:=EN t.rights p.rights;have c5:=zCn t.til p.til;generalize wiF t.rights p.rights=q3 at *;generalize laF t.til p.til=q4 at *;cases q3
   ·rw[zZv,zZv]at htok;rw[stop htok];refine yR (fQ c1 c3 c4) ?_;exact zJ
   by_cases hcl:t.cls<=p.cls
   ·rw[zYa hcl,zYr,zYr]at htok;cases q4
    ·(refine yR (XU c1 c3 c4 c5) ?_)
     exact⟨next htok,by rw[Int.natCast_succ];rfl⟩
    ·rw[stop htok];refine yR (XU c1 c3 c4 c5) ?_;exact zJ
   ·rw[zYb hcl,zYr,zZv]at htok;rw[stop htok];refine yR (XU c1 c3 c4 c5) ?_;exact zJ
 ·rintro st ⟨hp,rfl⟩
  rw[show MY l=true by
   unfold MY;rw[zYa h8,hr,zYr,zYr]
   exact zYi.2 λi hi=>hp i (zYs.1 hi)]
  refine WW ?_;exact zJ
def ldF (l:List Tk):Nat->Int->Int->Bool
 |0,_,_=>false
 |n+1,f,t=>dW l f&&(f==t||ldF l n (l.getD f.toNat default).par t)
def zKc (l:List Tk) (n:Nat) (f t:Int):ldF l (n+1) f t=(dW l f&&(f==t||ldF l n (l.getD f.toNat default).par t)):=rfl
theorem zKd (l:List Tk) (t:Int):∀(n:Nat) (f:Int),ldF l n f t=(WA l n f).any λa=>a==t
 |0,_=>rfl
 |n+1,f=>by
  rw[zKc,fZ];cases dW l f
  ·rfl
  ·rw[zZo,List.any_cons,zKd l t n,zYr]
def QC (l:List Tk) (s:Nat):Bool:=if(l.getD s default).used=true then soF (l.getD s default)&&ldF l (l.length+1) s 0&&(decide (s=0)||(wiF (l.getD s default).rights (l.getD (l.getD s default).par.toNat default).rights&&decide ((l.getD s default).cls<=(l.getD (l.getD s default).par.toNat default).cls)&& !laF (l.getD s default).til (l.getD (l.getD s default).par.toNat default).til))
 else CG (l.getD s default)
def NI (t:Tk):Bool:=t.used&&decide (t.par= -1/\t.til=0)
def zKe (l:List Tk):Bool:=decide ((l.length:Int)=8)&&(NI (l.getD 0 default)&&(List.range l.length).all λi=>QC l i)
def KJ (l:List Tk):yV [zD yY l] [] (bA (zKe l)) []:=yI
def zO4 (l:List Tk) (s:Int) (hn:l.length=8):yV [zD yY l,iA s] [] (iA (cF (λi=>ldF l (l.length+1) i s) 8)) []:=yI
def frB (p:Nat->Bool) (l:List Tk) (n:Nat):List Tk:=(List.range l.length).map λj=>if j<n/\p j=true then frT else l.getD j default
def zO5 (l:List Tk) (hb:GJ l) (p:Nat->Bool) (hn:l.length=8):yV [zD yY l,iA (cF p 8)] [] (zD yY (frB p l 8)) []:=yI
theorem zKf:∀(n:Nat) (f:Nat->Nat),(∀i,i<=n->f i<n)->∃i j,i<j/\j<=n/\f i=f j
 |0,f,h=>absurd (h 0 (zX7 _)) (yAp _)
 | n+1,f,h=>by
  by_cases hx:∃i,i<=n/\f i=f (n+1)
  ·obtain⟨i,h1,h2⟩:=hx;exact⟨i,n+1,zB,zX7 _,h2⟩
  ·obtain⟨i,j,h1,h2,h3⟩:=zKf n (λi=>if f i<f (n+1)then f i else f i-1) λi hi=>by
    have h4:=h i zB;have h5:=h (n+1) (zX7 _);have h6:f i≠f (n+1):=λe=>hx ⟨i,hi,e⟩
    split<;>omega
   refine⟨i,j,h1,zB,?_⟩;have h4:f i≠f (n+1):=λe=>hx ⟨i,zB,e⟩
   have h5:f j≠f (n+1):=λe=>hx ⟨j,h2,e⟩
   split at h3<;>split at h3<;>omega
def par (l:List Tk) (s:Int):Int:=(l.getD s.toNat default).par
def CH (l:List Tk) (s:Int):Nat->Int
 |0=>s
 |k+1=>par l (CH l s k)
theorem YN (l:List Tk) (s:Int):∀k,CH l s (k+1)=CH l (par l s) k
 |0=>rfl
 |k+1=>by rw[CH,YN l s k];rfl
theorem HE (l:List Tk) (s:Int) (i:Nat):∀k,CH l s (i+k)=CH l (CH l s i) k
 |0=>rfl
 |k+1=>by rw[<-yCp,CH,HE l s i k];rfl
theorem aZ (l:List Tk) (t:Int):∀(n:Nat) (s:Int),t∈WA l n s↔∃k,k<n/\(∀j,j<=k->dW l (CH l s j)=true)/\CH l s k=t
 |0,s=>by simp[WA]
 | n +1,s=>by
  rw[fZ];constructor
  ·intro h;cases hu:dW l s
   ·rw[hu]at h;simp at h
   ·rw[hu,zZo,zZg]at h
    rcases h with rfl|h
    ·exact⟨0,zB,λj hj=>by rw[Nat.le_zero.1 hj];exact hu,rfl⟩
    ·obtain⟨k,h1,h2,h3⟩:=(aZ l t n _).1 h;refine⟨k+1,zB,λj hj=>?_,by rw[YN];exact h3⟩
     cases j with
     |zero=>exact hu
     |succ j=>rw[YN];exact h2 j zB
  ·rintro⟨k,h1,h2,h3⟩;have hu:=h2 0 (zYl _)
   change dW l s=true at hu
   rw[hu,zZo,zZg]
   cases k with
   |zero=>exact .inl h3.symm
   |succ k=>
    rw[YN]at h3;refine .inr ((aZ l t n _).2 ⟨k,zB,λj hj=>?_,h3⟩);have:=h2 (j+1) zB;rw[YN]at this;exact this
def zQ2 {l:List Tk} (h8:l.length=8) (s t:Int) (n:Nat) (h:t∈WA l n s):t∈WA l 8 s:=by
 obtain⟨k,_,h2,h3⟩:=(aZ l t n s).1 h;clear h
 suffices ∀m k,k<=m->(∀j,j<=k->dW l (CH l s j)=true)->CH l s k=t->t∈WA l 8 s from this k k (zX7 _) h2 h3
 intro m
 induction m with
 |zero=>intro k hk h2 h3;exact(aZ l t 8 s).2 ⟨k,zB,h2,h3⟩
 | succ m ih=>
  intro k hk h2 h3;by_cases h:k<8
  ·exact(aZ l t 8 s).2 ⟨k,h,h2,h3⟩
  obtain⟨i,j,h4,h5,h6⟩:=zKf 8 (λi=>(CH l s i).toNat) λi hi=>by
   have:=VN (h2 i zB);omega
  have e1:=VN (h2 i zB);have e2:=VN (h2 j zB);have e3:CH l s i=CH l s j:=by omega
  have e4:∀r,CH l s (i+r)=CH l s (j+r):=λr=>by rw[HE,HE,e3]
  refine ih (i+(k-j)) zB (λr hr=>h2 r zB) ?_;rw[e4,show j+(k-j)=k by omega];exact h3
def zKg (l:List Tk) {t s:Int} {n m:Nat} (hnm:n<=m) (h:t∈WA l n s):t∈WA l m s:=by
 obtain⟨k,h1,h2,h3⟩:=(aZ l t n s).1 h;exact(aZ l t m s).2 ⟨k,zB,h2,h3⟩
inductive Rch (l:List Tk):Int->Int->Prop
 |base (s:Int):dW l s=true->Rch l s s
 |step (s t:Int):dW l s=true->Rch l (par l s) t->Rch l s t
theorem zA3 (l:List Tk) (t:Int):∀(n:Nat) (s:Int),t∈WA l n s->Rch l s t
 |0,s,h=>by simp[WA]at h
 | n+1,s,h=>by
  rw[fZ]at h;cases hu:dW l s
  ·rw[hu]at h;simp at h
  ·rw[hu,zZo,zZg]at h
   rcases h with rfl|h
   ·exact .base _ hu
   ·exact .step _ _ hu (zA3 l t n _ h)
def zDf {l:List Tk} {s t:Int} (h:Rch l s t):∃n,t∈WA l n s:=by
 induction h with
 |base s hu=>exact⟨1,by rw[fZ,hu,zZo];exact List.mem_cons_self⟩
 |step s t hu _ ih=>
  obtain⟨n,hn⟩:=ih;exact⟨n+1,by rw[fZ,hu,zZo];exact List.mem_cons_of_mem _ hn⟩
def HF {l:List Tk} (h8:l.length=8) (s t:Int):ldF l 9 s t=true↔Rch l s t:=by
 rw[zKd,zZy];constructor
 ·rintro⟨x,h1,h2⟩;rw[zZb]at h2;subst h2;exact zA3 l _ _ _ h1
 ·intro h;obtain⟨n,hn⟩:=zDf h;exact⟨t,zKg l zB (zQ2 h8 s t n hn),by simp⟩
def zTx {l:List Tk} (h8:l.length=8) (s t:Int):deF l s t=true↔Rch l s t:=by
 unfold deF;rw[zZy];constructor
 ·rintro⟨x,h1,h2⟩;rw[zZb]at h2;subst h2;exact zA3 l _ _ _ h1
 ·intro h;obtain⟨n,hn⟩:=zDf h;exact⟨t,zQ2 h8 s t n hn,by simp⟩
def zQ3 {l:List Tk} (h8:l.length=8) (s t:Int):deF l s t=ldF l 9 s t:=by
 rw[yCs,zTx h8,HF h8]
def zKh (l:List Tk):MY l=zKe l:=by
 unfold MY zKe;by_cases h8:l.length=8
 case neg=>rw[zYb zB];rfl
 rw[zYa zB,zYr,zYr,h8,yCs];simp only[zYg,zYi,zYs]
 have hs:∀i:Nat,i<7->(NH l ((i:Int)+1)=QC l (i+1)):=λi hi=>by
  unfold NH QC;rw[zQ3 h8,h8,show(((i+1:Nat):Int)=(i:Int)+1) by omega,show((i:Int)+1).toNat=i+1 by omega,zYb (by omega:¬i+1=0),yA7]
 constructor
 ·rintro⟨h1,h2⟩;unfold KI at h1;simp only[zYg,zX9]at h1;obtain⟨⟨u,p,q⟩,r⟩:=h1;refine⟨by unfold NI;rw[u,p,q];rfl,λi hi=>?_⟩
  cases i with
  |zero=>
   unfold QC;rw[zX3 u,r,h8];have:ldF l 9 ((0:Nat):Int) 0=true:=(HF h8 _ _).2 (.base _ (by unfold dW;rw[zYa zB];exact u));rw[show(8+1)=9 from Z,this];rfl
  |succ i=>rw[<-hs i zB];exact h2 i zB
 ·rintro⟨h1,h2⟩;have h3:=h2 0 zB;unfold NI at h1;simp only[zYg,zX9]at h1;obtain⟨u,p,q⟩:=h1;unfold QC at h3;rw[zX3 u]at h3;simp only[zYg]at h3;refine⟨by unfold KI;rw[u,p,q,h3.1.1];rfl,λi hi=>by rw[hs i hi];exact h2 (i+1) zB⟩
structure TV (l:List Tk):Prop where
 n:l.length=8
 u:(l.getD 0 default).used=true
 p:(l.getD 0 default).par= -1
 e:(l.getD 0 default).til=0
 f:∀i,i<8->(l.getD i default).used=false->CG (l.getD i default)=true
 s:∀i,i<8->(l.getD i default).used=true->soF (l.getD i default)=true/\Rch l i 0/\(i≠0->wiF (l.getD i default).rights (l.getD (l.getD i default).par.toNat default).rights=true/\(l.getD i default).cls<=(l.getD (l.getD i default).par.toNat default).cls/\laF (l.getD i default).til (l.getD (l.getD i default).par.toNat default).til=false)
def zTy (l:List Tk):zKe l=true↔TV l:=by
 unfold zKe;simp only[zYg,zX9,zYi,zYs];constructor
 ·rintro⟨h8,h1,h2⟩;have h8:l.length=8:=by omega
  unfold NI at h1;simp only[zYg,zX9]at h1;refine⟨h8,h1.1,h1.2.1,h1.2.2,λi hi hu=>?_,λi hi hu=>?_⟩
  ·have:=h2 i zB;unfold QC at this;rw[zX2 (by rw[hu];simp)]at this;exact this
  ·have:=h2 i zB;unfold QC at this;rw[zX3 hu,h8]at this;simp only[zYg,yAo,zX9,yAn]at this;obtain⟨⟨a,b⟩,c⟩:=this;refine⟨a,(HF h8 _ _).1 b,λh0=>?_⟩
   rcases c with c|c
   ·exact absurd c h0
   ·exact⟨c.1.1,c.1.2,c.2⟩
 ·rintro⟨h8,u,p,e,f,s⟩;refine⟨zB,by unfold NI;rw[u,p,e];rfl,λi hi=>?_⟩;unfold QC;cases hu:(l.getD i default).used
  ·rw[zX2 zW];exact f i zB hu
  ·rw[zX3 Z,h8];obtain⟨a,b,c⟩:=s i zB hu;simp only[zYg,yAo,zX9,yAn];refine⟨⟨a,(HF h8 _ _).2 b⟩,?_⟩;by_cases h0:i=0
   ·exact .inl h0
   ·have c:=c h0;exact .inr ⟨⟨c.1,c.2.1⟩,c.2.2⟩
theorem Rch.us {l:List Tk} {s t:Int} (h:Rch l s t):dW l s=true:=by
 cases h<;>assumption
theorem Rch.trans {l:List Tk} {s t u:Int} (h:Rch l s t) (g:Rch l t u):Rch l s u:=by
 induction h with
 |base _ _=>exact g
 |step s t hu _ ih=>exact .step _ _ hu (ih g)
def gH (n a b:Int):Bool:=decide (a<=n/\n<=b)
def uO (n a b:Int):zO 142 [iA n,iA a,iA b] [] (bA (gH n a b)) []:=by
 (cases hb:gH n a b with|false=>((refine eM call142 λF hF=>?_);((refine WW (I2 (λhc=>?_) λhc=>?_)));all_goals (first|exact zJ|(simp only[gH,zYj]at hb;first|exact zXO|exact BP)))|true=>(simp only[gH,zX9]at hb;(refine eM call142 λF hF=>?_);((refine WW ?_));all_goals (first|exact zJ|exact zXO|exact BP)))
structure AgV (a:Ag):Prop where
 s:(a.sec.length:Int)=8
 l:(a.lim.length:Int)=4
 li:∀n∈a.lim,0<=n/\n<=8
 r:0<=a.rights/\a.rights<=63
 c:0<=a.cls/\a.cls<=3
 q:0<=a.req/\a.req<=4
 e:1<=a.ses/\a.ses<=2
 b:0<=a.burst/\a.burst<=1000
 t:0<=a.rate/\a.rate<=a.burst
def zQ4 {n a b:Int} (h:a<=n/\n<=b):gH n a b=true:=zYa h
def zE6 (a:Ag) (h:AgV a):zO 144 [vU a] [] (bA true) []:=by
 obtain⟨h1,h2,h3,h4,h5,h6,h7,h8,h9⟩:=h;have hs:=zA yA a.sec;have hl:=zA iA a.lim;have c1:=uO a.rights 0 63;have c2:=uO a.cls 0 3;have c3:=uO a.req 0 4;have c4:=uO a.ses 1 2;have c5:=uO a.burst 0 1000;have c6:=uO a.rate 0 a.burst;rw[zQ4 zB]at c1 c2 c3 c4 c5 c6;refine eM call144 λF hF=>?_
 refine WW ?_;refine yT (a.lim) [1] [1] [1,16,17] [18,1,16,17] Z (λi pre T U=>⟨(18,iA i)::T,U⟩) ?_;(conv=>whnf);refine⟨by rfl,?_,?_⟩
 ·intro i pre x post hx hi;have hy:=xQ iA hx hi;have hlt:=yW hx hi;have hm:=h3 x (vF hx);have c:=uO x 0 8;rw[zQ4 zB]at c;clear hx;refine zY c ?_;rfl
 ·(refine yR (zt6 c1 c2 c3 c4 c5 c6) ?_)
  exact zJ
def a0:Ag:=⟨zAb 1,1,0,[1,1,1,1],0,1,0,2⟩
def zKi (n:Int):(zAb n).length=8:=by simp[zAb]
def zWj (n:Int) (a:Ag) (h:AgV a):ER (CE n a):=by
 have h1:=h.s;have h2:=h.l;refine⟨⟨by simp[CE,tkN],λt ht=>?_⟩,by unfold CE;dsimp only;omega,by unfold CE;dsimp only;omega,by simp[CE]⟩;simp only[CE,tkN,zZg]at ht
 rcases ht with rfl|ht
 ·dsimp only;omega
 ·rw[List.eq_of_mem_replicate ht];simp[frT]
section
open Go.RowKit
def LIn (k:IntKind) (w:World) (A:Option Addr) (n c:Nat) (xs:List Int):Prop:=
 xs.length=n/\n<=c/\c<=9223372036854775807/\(0<n->∃b o,A=some ⟨b,o,none⟩/\b<w.heap.size/\∀j,j<n->w.cell? ⟨b,o+j,none⟩=some (.int k (xs.getD j 0)))
theorem LIn.of_row {k:IntKind} {w:World} {a:Option Addr} {len cap:Nat} {zs:List Int}
  (h:(a=none/\len=0/\cap=0/\zs=[])∨∃x,a=some x/\len<=cap/\cap<=maxLen/\zs.length=cap/\(∀i,i<zs.length->w.cell? (x.add i)=some (.int k (zs.getD i 0)))/\∀n∈zs,(Lit.int k n).wf=true):
  LIn k w a len cap (zs.take len):=by
 rcases h with⟨rfl,rfl,rfl,rfl⟩|⟨x,rfl,h1,h2,h3,h4,_⟩
 ·exact⟨rfl,zX7 _,zB,λh=>absurd h zB⟩
 ·refine⟨by simp;omega,h1,by unfold maxLen at h2;omega,λhn=>?_⟩;obtain⟨b,off,spot⟩:=x;have hc:=h4 0 zB;have hspot:spot=none:=by simpa [Addr.add]using World.cell?_spot hc
  subst hspot;have hc0:w.cell? ⟨b,off,none⟩=some (.int k (zs.getD 0 0)):=by simpa [Addr.add]using hc
  refine⟨b,off,rfl,World.block_lt_of_cell? w _ hc0,λj hj=>?_⟩;have hcj:=h4 j zB
  have e:(⟨b,off,none⟩:Addr).add j=⟨b,off+j,none⟩:=by unfold Addr.add;split<;>simp_all
  rw[e]at hcj;rw[hcj];have hjz:j<zs.length:=by omega
  simp[List.getD,hj,hjz]
theorem LIn.repf {k:IntKind} {w:World} {A:Option Addr} {n c:Nat} {xs:List Int} (h:LIn k w A n c xs) {D:Nat->Prop} (hD:∀b,¬D b):xE w D (.sl false (xs.map λn=> .s (.int k n))) (.slice A n c):=by
 obtain⟨rfl,h2,h3,h4⟩:=h
 cases hx:xs with
 |nil=>exact .nil A c
 | cons x r=>
  rw[<-hx];obtain⟨b,o,rfl,hb,hc⟩:=h4 (by rw[hx];simp)
  have:=xE.sl (w:=w) (D:=D) false (xs.map λn=>AV.s (.int k n)) b o 1 c (λi _=> .int k (xs.getD i 0)) (by rw[hx];simp)
   ⟨hb,hD b,zX7 _,by simp[cU];omega,λi y hy=>by
    rw[zX8,zYf]at hy;obtain⟨z,_,rfl⟩:=hy
    rfl,λi j hi hj=>by
    obtain rfl:j=0:=by omega
    rw[Nat.mul_one,yBa]
    exact hc i LY,λ_ _ _ _=>rfl⟩ KD (λi y j v hy hv=>by
    rw[zX8,zYf]at hy;obtain⟨z,hz,rfl⟩:=hy
    cases j with
    |zero=>
     simp[AV.cells]at hv;subst hv;have:xs.getD i 0=z:=by simp[List.getD,hz]
     rw[this];exact .s _
    |succ j=>simp[AV.cells]at hv)
  simpa using this
theorem xP.law {P:Program} {f:Nat} {args:List AV} (h:xP P f args [] (.s (.bool true)) []) {cargs:Array Value} {w:World} (hl:cargs.size=args.length)
  (hr:∀(i:Nat) v,args[i]? =some v->xE w (xO (λ_=>False) λ_=>[]) v (cargs.getD i undef)):Calls P f cargs w λe w'=>e= .returned (.bool true)/\Below w.heap.size w w':=by
 have H:jK (λ_=>False) (zC []) (λ_=>[]) w:=⟨λk e he=>by simp[zC]at he,λ_ _=>rfl,λk k' b n n' h1 _=>by simp at h1,λk b n h1=>by simp at h1,λb hd=>by
  rcases hd with hd|⟨_,_,hd⟩
  ·exact hd.elim
  ·simp at hd⟩
 refine Calls.mono (h.sim (λ_=>False) w (λ_=>[]) cargs hl H λi v hv=> .fz _ _ (hr i v hv)) ?_;rintro e w' ⟨c,β',rfl,G,hc⟩;have:c= .bool true:=hc.s_inv;subst this;exact⟨rfl,G.os,G.tape,G.output,G.size,λk hk=>G.keep k hk λ_ _ hm=>by simp at hm⟩
def dom0:∀b,¬xO (λ_=>False) (λ_=>[]) b:=λb hd=>by
 rcases hd with hd|⟨_,_,hd⟩
 ·exact hd
 ·simp at hd
def YO (w:World):List AV->List Value->Prop
 | [],[]=>True
 |a::r,c::s=>xE w (xO (λ_=>False) λ_=>[]) a c/\YO w r s
 |_,_=>False
theorem YO.len {w:World}:∀{l:List AV} {s:List Value},YO w l s->s.length=l.length
 | [],[],_=>rfl
 |_::_,_::_,h=>by simp[YO.len h.2]
 | [],_::_,h=>h.elim
 |_::_,[],h=>h.elim
theorem YO.at {w:World}:∀{l:List AV} {s:List Value},YO w l s->∀(i:Nat) v,l[i]? =some v->xE w (xO (λ_=>False) λ_=>[]) v (s.getD i undef)
 | [],[],_,i,v,hv=>by simp at hv
 |a::_,c::_,h,0,v,hv=>by simp at hv;subst hv;exact h.1
 |_::_,_::_,h,i+1,v,hv=>by simpa using YO.at h.2 i v DN
 | [],_::_,h,_,_,_=>h.elim
 |_::_,[],h,_,_,_=>h.elim
theorem xP.lawL {P:Program} {f:Nat} {args:List AV} (h:xP P f args [] (.s (.bool true)) []) {cs:List Value} {w:World} (hr:YO w args cs):Calls P f cs.toArray w λe w'=>e= .returned (.bool true)/\Below w.heap.size w w':=
 h.law (by simpa using hr.len) λi v hv=>by simpa [zY7,List.getD]using hr.at i v hv
theorem LIn.le {k:IntKind} {w:World} {A:Option Addr} {n c:Nat} {xs:List Int} (h:LIn k w A n c xs):xs.length<=9223372036854775807:=by
 obtain⟨h1,h2,h3,_⟩:=h;omega
end
def rem (d:Dk):Nat:=d.l.length-d.a
def zTz (d:Dk):rem (ad d)<=rem d:=by unfold ad;split;(unfold rem;dsimp only;omega);exact zX7 _
structure TkP (l:List Tk):Prop where
 n:l.length=8
 y:∀t∈l,BY t.sec/\t.sec.length<=8/\(t.used=true->t.sec.length=8/\GI t.rights=true/\0<=t.til/\t.til<=2147483648)
 v:TV l
theorem TkP.b {l:List Tk} (h:TkP l):GJ l:=⟨by have:=h.n;omega,λt ht=>by have:=(h.y t ht).2.1;omega⟩
def aC (l:List Vh) (id:Int):Vh:=(l.find? λv=>v.id==id).getD ⟨0,0⟩
def RI (l:List Vh) (id:Int):Bool:=l.any λv=>v.id==id
def zE7 {l pre post:List Vh} {x:Vh} {id:Int} (h:l=pre++x::post) (hn:∀y∈pre,y.id≠id) (hx:x.id=id):aC l id=x/\RI l id=true:=by
 subst h;have h1:pre.find? (λv=>v.id==id)=none:=yCx.2 λy hy=>by simpa using hn y hy
 refine⟨?_,by simp[RI,hx]⟩;unfold aC;rw[yDn,h1];simp[hx]
def zA4 {l:List Vh} {id:Int} (hn:∀y∈l,y.id≠id):aC l id=⟨0,0⟩/\RI l id=false:=by
 have h1:l.find? (λv=>v.id==id)=none:=yCx.2 λy hy=>by simpa using hn y hy
 exact⟨by unfold aC;rw[h1];rfl,by simpa [RI]using hn⟩
def zO6 (l:List Vh) (id:Int) (hn:l.length<=1000000):yV [zD vY l,iA id] [] (.tup [vY (aC l id),bA (RI l id)]) []:=yI
def jR (l:List Vh) (c:Int):Nat:=(l.filter λv=>v.cls==c).length
def zKj (l:List Vh) (c:Int) (hn:l.length<=1000000):yV [zD vY l,iA c] [] (iA (jR l c)) []:=yI
def RJ (l:List Vh) (i:Nat):Bool:=decide (0<=(l.getD i default).id/\(l.getD i default).id<=4294967295/\0<=(l.getD i default).cls/\(l.getD i default).cls<=3/\(0<i->(l.getD (i-1) default).id<(l.getD i default).id))
def GN (l:List Vh):Bool:=((List.range l.length).all λi=>RJ l i)&&decide ((l.length:Int)<=8)
def zT0 {l:List Vh} {i:Nat} (hi:i<l.length) (h:RJ l i=false):GN l=false:=by
 unfold GN;have:((List.range l.length).all λi=>RJ l i)=false:=yA4.2 ⟨i,zYs.2 hi,by simp[h]⟩;rw[this];simp
def zE8 (l:List Vh) (hn:l.length<=1000000):yV [zD vY l] [] (bA (GN l)) []:=yI
def fA (k v:Int):Ms:=⟨14,[],[k,v],[]⟩
def HG (k v:Int):zO 203 [iA k,iA v] [] (yF (fA k v)) []:=by
 refine eM call203 λF hF=>?_
 refine WL ?_;exact zJ
def HI (l:List Tk):Nat:=(l.filter λt=>!t.used).length
def ZF (d:xI):Ms:=⟨20,[],[(HI d.rg.tk:Int),8-(d.rg.vh.length:Int),d.rg.ag.req-(d.rq.length:Int),d.rg.bk.level],[]⟩
def zE9 (pre:List Tk) (x:Tk):HI (pre++[x])=HI pre+(if x.used=true then 0 else 1):=by
 unfold HI;rw[yBv,zX4]
 cases hu:x.used<;>simp[hu]
def zO7 (d:xI) (hb:cO d) (h0:0<=d.rg.ag.req) (h1:d.rg.ag.req<=1000):yV [zK d] [] (yF (ZF d)) []:=yI
def zA5 (d:xI) (k now:Int) (hk1:k≠1) (hk9:k≠9) (hb:cO d) (h0:0<=d.rg.ag.req) (h1:d.rg.ag.req<=1000):zO 204 [zK d,iA k,iA now] [] (yF (ZF d)) []:=by
 have hq:=hb.q;have hn:=hb.rg.tk.n;have hv:=hb.rg.v;have hlt:=zA yY d.rg.tk;have hlv:=zA vY d.rg.vh;have hlq:=zA yL d.rq;unfold ZF;rw[<-hlv,<-hlq];unfold zK wI;refine eM call204 λF hF=>?_
 refine WW ?_;refine yT (d.rg.tk) [3,6] [3,6] [3,6,45,46] [10,47,3,6,45,46] Z (λi pre T U=>⟨(10,iA (HI pre))::(47,iA i)::T,U⟩) ?_;(conv=>whnf);refine⟨by rfl,?_,?_⟩
 ·intro i pre x post hx hi;have hy:=xQ yY hx hi;have hlt2:=yW hx hi;have hle:HI pre<=i:=by rw[<-hi];exact yAd _ _
  have e:=zE9 pre x;clear hx
  cases hu:x.used with
  |true=>
   rw[hu,zX3 Z,yBa]at e;rw[e];generalize HI pre=m at *;obtain⟨us,sec,par,ri,cl,ti⟩:=x;cases hu;refine WW ?_;rfl
  |false=>
   rw[hu,zX2 zYp]at e;rw[e];generalize HI pre=m at *;obtain⟨us,sec,par,ri,cl,ti⟩:=x;cases hu;refine WW ?_;rfl
 ·(refine WL ?_)
  exact zJ
def NJ (d:xI) (now:Int):Ms:=⟨13,[],[d.rg.num,now],[]⟩
def CI (d:xI) (now:Int):zO 204 [zK d,iA 1,iA now] [] (yF (NJ d now)) []:=by
 unfold NJ zK wI;refine eM call204 λF hF=>?_
 refine WL ?_;exact zJ
def fY (l:List Rq):List Int:=(l.map λr=>[r.id,r.til]).flatten
def NK (d:xI):Ms:=⟨19,[],fY d.rq,[]⟩
def zA6 (pre:List Rq) (x:Rq):(fY (pre++[x])).map iA=(fY pre).map iA++[iA x.id,iA x.til]:=by simp[fY]
theorem RK:∀l:List Rq,(fY l).length=2*l.length
 | []=>rfl
 |x::l=>by
  have:=RK l
  show(x.id::x.til::fY l).length=_
  rw[zYh,zYh,zYh];omega
def zA7 (d:xI) (now:Int) (hb:cO d):zO 204 [zK d,iA 9,iA now] [] (yF (NK d)) []:=by
 have hq:=hb.q;have hlq:=zA yL d.rq;unfold NK zK wI;refine eM call204 λF hF=>?_
 refine WW ?_;refine uY 7 2 1001 1 Z Z Z Z Z ?_;refine yT (d.rq) [7,1001,6] [6] [6,7,26,27] [28,6,7,26,27] Z (λi pre T U=>⟨(28,iA i)::T,(7,.box [iA 19,.s (.slice none 0 0),.ref 1001 0 ((fY pre).map iA).length,.s (.slice none 0 0)])::(1001,.arr 1 ((fY pre).map iA) true)::U⟩) ?_;(conv=>whnf);refine⟨by rfl,?_,?_⟩
 ·intro i pre x post hx hi;have hy:=xQ yL hx hi;have hlt2:=yW hx hi;have hle:=RK pre;have hlm:=zA iA (fY pre);have e:=zA6 pre x;clear hx;rw[e];generalize (fY pre).map iA=xs at *;refine WW ?_;rfl
 ·(refine WW ?_)
  refine zI [] Z Z ?_ Z
  show AV.agg [iA 19,.sl false [],.sl false (((fY d.rq).map iA).take ((fY d.rq).map iA).length),.sl false []]=_
  rw[zX6];rfl
def zO8 (l:List Vh) (id:Int) (hn:l.length<=1000000):zO 243 [zD vY l,iA id] [] (.tup [vY (aC l id),bA (RI l id)]) []:=by
 have hl:=zA vY l;refine eM call243 λF hF=>?_
 refine WW ?_;refine kN (l) [4] [] [1,4,8,9] [10,1,4,8,9] Z (λi pre T U zs=>(∀y∈pre,y.id≠id)/\zs=⟨(10,iA i)::T,(4,.box [.s (.int .i64 0),.s (.int .i64 0)])::U⟩) ?_;(conv=>whnf);refine⟨?_,?_,?_⟩
 ·exact⟨by simp,rfl⟩
 ·rintro i pre x post st hx hi ⟨hp,rfl⟩;have hy:=xQ vY hx hi;have hlt:=yW hx hi;by_cases he:x.id=id
  ·obtain⟨e1,e2⟩:=zE7 hx hp he;rw[e1,e2];clear hx;refine WW ?_;exact zJ
  ·clear hx;refine WW ?_;exact⟨λy hy=>by simp only[zYy,zZd]at hy;rcases hy with hy|rfl;exact hp y hy;exact he,rfl⟩
 ·rintro st ⟨hp,rfl⟩;obtain⟨e1,e2⟩:=zA4 hp;rw[e1,e2];refine WW ?_;exact zJ
def zFa (l:List Rq) (q id:Int) (v:Vh) (life:Int) (x:List Lg) (now:Int) (hv:ZN l) (hq:(l.length:Int)<=q) (hb:¬((0<=v.id/\v.id<=4294967295)/\(0<=v.cls/\v.cls<=3))):
  zO 245 [zD yL l,iA q,iA id,vY v,iA life,zD xW x,iA now] [] (.tup [zD yL [],iA 1]) []:=by
 have c1:=UT l q hv hq;have c2:=OK v.id;have c3:=zAk v.cls;by_cases h1:0<=v.id/\v.id<=4294967295
 ·have h2:¬(0<=v.cls/\v.cls<=3):=λh=>hb ⟨h1,h⟩
  rw[zYa h1]at c2;rw[zYb h2]at c3;refine eM call245 λF hF=>?_
  refine yR (fQ c1 c2 c3) ?_;exact zJ
 ·rw[zYb h1]at c2;refine eM call245 λF hF=>?_
  refine yR (wZ c1 c2) ?_;exact zJ
structure Qd where
 j:Int
 p:Int
 f:Int
 t:Int
def q4 (q:Qd):List Int:=[q.j,q.p,q.f,q.t]
def XO (qs:List Qd):List Int:=(qs.map q4).flatten
def NL (c:Cf) (now:Int) (q:Qd):Bool:=decide (q.j<(c.js.length:Int))&&(decide (q.p<((c.js.getD q.j.toNat default).ph.length:Int))&&mwB q.j q.p q.f q.t now)
def HJ (now:Int) (q:Qd):Lg:=mwF q.j q.p q.f q.t now
def zKk (v:Vh):Bool:=decide ((0<=v.id/\v.id<=4294967295)/\(0<=v.cls/\v.cls<=3))
def sxE (l:List Rq) (q id life:Int) (v:Vh) (x:List Lg):Int:=if(l.length:Int)<=q then(if zKk v=true then suE l q id life x else 1)else 1
def sxL (l:List Rq) (q id life now:Int) (v:Vh) (x:List Lg):List Rq:=if sxE l q id life v x=0 then ZI l (aL id v life x now)else []
def zXr (l:List Rq) (q id:Int) (v:Vh) (life:Int) (x:List Lg) (now:Int) (hv:ZN l) (n0:0<=now) (n1:now<=1073741824):
  zO 245 [zD yL l,iA q,iA id,vY v,iA life,zD xW x,iA now] [] (.tup [zD yL (sxL l q id life now v x),iA (sxE l q id life v x)]) []:=by
 unfold sxL sxE;by_cases hq:(l.length:Int)<=q
 ·rw[zX3 hq];by_cases hb:(0<=v.id/\v.id<=4294967295)/\(0<=v.cls/\v.cls<=3)
  ·have hv1:zKk v=true:=zYa hb;rw[zX3 hv1];exact zI4 l q id v life x now hv hq hb.1.1 hb.1.2 hb.2.1 hb.2.2 n0 n1
  ·have hv1:¬zKk v=true:=λh=>hb (yB8 h)
   rw[zX2 hv1,zX2 zV];exact zFa l q id v life x now hv hq hb
 ·rw[zX2 hq,zX2 zV];exact zFe l q id v life x now hv hq
theorem PK:∀qs:List Qd,(XO qs).length=4*qs.length
 | []=>rfl
 |x::l=>by
  have:=PK l
  show(x.j::x.p::x.f::x.t::XO l).length=_
  simp only[zYh];omega
def zO9 (a b:List Qd):XO (a++b)=XO a++XO b:=by simp[XO]
def zKl (x y z:Int) (pre post:List Qd) (i:Nat) (hi:pre.length=i):(x::y::z::XO (pre++post)).drop (3+4*i)=XO post:=by
 rw[zO9,show 3+4*i=4*i+1+1+1 by omega,yBo,yBo,yBo,yCj (by rw[PK];omega),yB2 (by rw[PK];omega),yAm]
def XH {α:Type} {l:List α} {n:Nat} {r:List α} (h:l.drop n=r) (k:Nat):l[n+k]? =r[k]? :=by rw[<-h,zZt]
def zWk (x y z:Int) (pre post:List Qd) (q:Qd) (I:Int) (hI:I=3+4*(pre.length:Int)):
  ((x::y::z::XO (pre++q::post)).map iA)[I.toNat]? =some (iA q.j)/\((x::y::z::XO (pre++q::post)).map iA)[(I+1).toNat]? =some (iA q.p)/\((x::y::z::XO (pre++q::post)).map iA)[(I+2).toNat]? =some (iA q.f)/\((x::y::z::XO (pre++q::post)).map iA)[(I+3).toNat]? =some (iA q.t):=by
 have h:=zKl x y z pre (q::post) pre.length Z
 refine⟨?_,?_,?_,?_⟩<;>rw[zX8]
 ·rw[show I.toNat=3+4*pre.length+0 by omega,XH h];rfl
 ·rw[show(I+1).toNat=3+4*pre.length+1 by omega,XH h];rfl
 ·rw[show(I+2).toNat=3+4*pre.length+2 by omega,XH h];rfl
 ·rw[show(I+3).toNat=3+4*pre.length+3 by omega,XH h];rfl
def dsE (c:Cf) (d:xI) (cls id v life now:Int) (qs:List Qd):Int:=
 if RI d.rg.vh v=true then(if cls<(aC d.rg.vh v).cls then 17 else if qs.all (NL c now)=true then sxE d.rq d.rg.ag.req id life (aC d.rg.vh v) (qs.map (HJ now))else 8)else 12
def dsL (c:Cf) (d:xI) (cls id v life now:Int) (qs:List Qd):List Rq:=
 if dsE c d cls id v life now qs=0 then ZI d.rq (aL id (aC d.rg.vh v) life (qs.map (HJ now)) now)else []
def zT1 {α:Type} {p:α->Bool} {pre post:List α} {x:α} (h:p x=false):¬(pre++x::post).all p=true:=by
 simp[h]
theorem zFb (c:Cf) (d:xI) (id v life slot now:Int) (qs:List Qd) (hb:cO d) (hv:ZN d.rq) (s0:0<=slot) (s1:slot<(d.rg.tk.length:Int)) (hq:qs.length<=3) (hp:∀q∈qs,0<=q.j/\0<=q.p) (n0:0<=now) (n1:now<=1073741824):
  zO 222 [vL c,zK d,zD iA (id::v::life::XO qs),iA slot,iA now] [] (.tup [zD yL (dsL c d (d.rg.tk.getD slot.toNat default).cls id v life now qs),iA (dsE c d (d.rg.tk.getD slot.toNat default).cls id v life now qs)]) []:=by
 have hfv:=zO8 d.rg.vh v (by have:=hb.rg.v;omega);have hlt:=zA yY d.rg.tk;have hyt:=yN yY d.rg.tk slot s0 s1;have hsx:=zXr d.rq d.rg.ag.req id (aC d.rg.vh v) life (qs.map (HJ now)) now hv n0 n1;have hll:((id::v::life::XO qs).map iA).length=3+4*qs.length:=by simp[PK];omega
 have hlj:=zA vC c.js;have hnt:=hb.rg.tk.n;unfold dsL dsE;unfold vL zK wI;generalize (d.rg.tk.getD slot.toNat default)=t at *;rw[show yY t= .agg [bA t.used,zD yA t.sec,iA t.par,iA t.rights,iA t.cls,iA t.til]from Z]at hyt;generalize RI d.rg.vh v=hv1 at*
 cases hv1 with
 |false=>
  rw[zX2 zYp,zX2 zV];refine eM call222 λF hF=>?_
  refine zY hfv ?_;exact zJ
 |true=>
 rw[zX3 Z];generalize aC d.rg.vh v=vh at *;unfold vY at hfv hsx;by_cases hcl:t.cls<vh.cls
 ·rw[zX3 hcl,zX2 zV];refine eM call222 λF hF=>?_
  refine zY hfv ?_;exact zJ
 rw[zX2 hcl];refine eM call222 λF hF=>?_
 refine zY hfv ?_;refine xA 15 1001 5 Z Z Z ?_;refine gM (qs.length) [1001,5,6,12] [5,6,12] [2,4,5,6,12] [15,16,2,4,5,6,12] Z (λzn T U zs=>∃(pre:List Qd) (post:List Qd),(qs=pre++post/\zn=post.length/\pre.all (NL c now)=true)/\zs=⟨(15,.ref 1001 0 (pre.map λq=>xW (HJ now q)).length)::(16,iA (3+4*(pre.length:Int)))::T,(1001,.arr 5 (pre.map λq=>xW (HJ now q)) true)::U⟩) ?_;(conv=>whnf);refine⟨?_,?_⟩
 ·exact⟨[],qs,⟨rfl,rfl,rfl⟩,rfl⟩
 ·rintro zn st ⟨pre,post,⟨hqs,hzn,hok⟩,rfl⟩;have hln:qs.length=pre.length+post.length:=by rw[hqs,zX4]
  have hpl:=zA (λq=>xW (HJ now q)) pre
  cases post with
  |nil=>
   rw[zY4]at hqs;subst hqs;rw[zX3 hok];rw[zZc]at hln hzn;have e1:(qs.map λq=>xW (HJ now q))=(qs.map (HJ now)).map xW:=by rw[yCl];rfl
   unfold sxL at hsx;rw[e1]at *; generalize qs.map (HJ now)=ls at *;generalize sxE d.rq d.rg.ag.req id life vh ls=e at *;generalize ZI d.rq (aL id vh life ls now)=il at *;generalize hI:3+4*(qs.length:Int)=I at *;rw[show(id::v::life::XO qs).map iA=iA id::iA v::iA life::(XO qs).map iA from Z]at *; generalize (XO qs).map iA=A at *;refine WD ?_;refine uS [5,6,12] [2,4,5,6,12,15] Z ?_
   (conv=>whnf)
   simp only[zYq,zX6];refine zY hsx ?_;exact zJ
  | cons q post=>
   have hpq:=hp q (by rw[hqs];simp);obtain⟨y0,y1,y2,y3⟩:=zWk id v life pre post q _ Z;rw[<-hqs]at y0 y1 y2 y3;rw[zYh]at hln hzn;have hno:NL c now q=false->¬qs.all (NL c now)=true:=λh=>by rw[hqs];exact zT1 h
   have hyes:NL c now q=true->(pre++[q]).all (NL c now)=true:=λh=>by rw[List.all_append,hok,yD4,h];rfl
   have hmp:((pre++[q]).map λq=>xW (HJ now q))=(pre.map λq=>xW (HJ now q))++[xW (HJ now q)]:=by simp
   have hw:=zCu q.j q.p q.f q.t now;rw[show NL c now q=(decide (q.j<(c.js.length:Int))&&(decide (q.p<((c.js.getD q.j.toNat default).ph.length:Int))&&mwB q.j q.p q.f q.t now))from Z]at hno hyes;generalize hA:(id::v::life::XO qs).map iA=A at *;have hA2:zD iA (id::v::life::XO qs)= .sl false A:=by rw[<-hA];rfl
   have hI:0<=3+4*(pre.length:Int)/\3+4*(pre.length:Int)+4=3+4*((pre++[q]).length:Int)/\3+4*(pre.length:Int)+3<A.length:=⟨zB,by simp;omega,zB⟩;by_cases g1:q.j<(c.js.length:Int)
   case neg=>
    rw[zYb g1]at hno;rw[zX2 (hno Z),zX2 zV];generalize 3+4*(pre.length:Int)=I at *;clear hno hyes hw hmp hqs;refine WW ?_;exact zJ
   have hyj:=yN vC c.js q.j hpq.1 g1;rw[zYa g1]at hno hyes;rw[show vC (c.js.getD q.j.toNat default)= .agg [zD vK (c.js.getD q.j.toNat default).ph,zD iA (c.js.getD q.j.toNat default).cf,iA (c.js.getD q.j.toNat default).st]from Z]at hyj;generalize c.js.getD q.j.toNat default=jn at *;have hlp:=zA vK jn.ph;by_cases g2:q.p<(jn.ph.length:Int)
   case neg=>
    rw[zYb g2]at hno;rw[zX2 (hno Z),zX2 zV];generalize 3+4*(pre.length:Int)=I at *;clear hno hyes hw hmp hqs;refine WW ?_;exact zJ
   rw[zYa g2]at hno hyes
   cases g3:mwB q.j q.p q.f q.t now with
   |false=>
    rw[g3]at hno hw;rw[zX2 zYp]at hw;rw[zX2 (hno Z),zX2 zV];generalize 3+4*(pre.length:Int)=I at *;generalize mwF q.j q.p q.f q.t now=lg at *;clear hno hyes hmp hqs;refine zY hw ?_;exact zJ
   |true=>
    rw[g3]at hyes hw;rw[zX3 Z]at hw;have hy2:=hyes Z;obtain⟨hI0,hI1,hI2⟩:=hI;have hfin:qs=(pre++[q])++post:=by rw[hqs];simp
    rw[show mwF q.j q.p q.f q.t now=HJ now q from Z]at hw;generalize HJ now q=lg at *;clear hno hyes hqs;generalize hqq:pre++[q]=pq at *;generalize (pre.map λq=>xW (HJ now q))=xs at *;generalize 3+4*(pre.length:Int)=I at *;refine zY hw ?_;exact⟨post.length,zB,pq,post,⟨hfin,rfl,hy2⟩,by rw[hmp,<-hI1];rfl⟩
def dkQ (d:xI) (l:List Rq):xI:=⟨d.rg,l,d.dr,d.au⟩
def zA8 (c:Cf) (d:xI) (k:Int) (tkn:List Int) (id v life cls now:Int) (qs:List Qd) (hb:cO d) (hv:ZN d.rq) (hq:qs.length<=3) (hp:∀q∈qs,0<=q.j/\0<=q.p) (n0:0<=now) (n1:now<=1073741824):
 yV [vL c,zK d,yF ⟨k,tkn,id::v::life::XO qs,[]⟩,iA cls,iA now] [] (.tup [zK (dkQ d (if dsE c d cls id v life now qs=0 then dsL c d cls id v life now qs else d.rq)),iA (dsE c d cls id v life now qs)]) []:=yI
end Av
end Go.Proofs.YteajjdidebfcjaaGreat
