/- Part 27. -/
import Derived.Test.YteajjdidebfcjaaGreatN26
namespace Go.Proofs.YteajjdidebfcjaaGreat
namespace Av
open Tryz
set_option linter.all false
set_option maxRecDepth 4000
set_option maxHeartbeats 4000000
def zO6 (j:Jn) (h:j.ph.length<=8):zO 111 [wE j] [] (.agg [bA true,bA false,.ref 1021 0 (j.ph.map wT).length,.ref 1022 0 (j.ph.map wT).length]) [(1021,.arr 1 (List.replicate (j.ph.map wT).length (iA 0)) false),(1022,.arr 1 (List.replicate (j.ph.map wT).length (iA 0)) false)]:=by
 have hl:=zA wT j.ph;unfold wE zD;generalize j.ph.map wT=P at *;refine eM call111 λF hF=>?_
 (repeat' (first|refine uC ?_|((first|apply xE|apply xV)<;>intro hc)|(refine zE ?_;first|(refine hH ?_;first|refine dD 1021 tok Z Z Z Z Z Z Z Z Z Z Z Z Z zB zB Z Z Z ?_|refine dD 1022 tok Z Z Z Z Z Z Z Z Z Z Z Z Z zB zB Z Z Z ?_))|fail))
 exact zK [1021,1022] Z Z Z Z
def cnT (p:Ph) (l:Li):Int:=if l.lamp=1 then max (UZ p-1-l.tk) 0 else if l.lamp=2 then p.yel-1-l.tk else if l.lamp=3 then p.red-1-l.tk else 0
def coT (l:Li):Int:=if l.lamp=1∨l.lamp=2 then l.lamp else 0
def zIz (p:Ph) (h:PhB p) (l:Li) (ht: -1000000000000<=l.tk/\l.tk<=1000000000000) (hn: -1000<=UZ p/\UZ p<=1000) (hy: -1000<=p.yel/\p.yel<=1000) (hr: -1000<=p.red/\p.red<=1000):zO 146 [wT p,vG l] [] (iA (cnT p l)) []:=by
 have c:=IF p h;unfold cnT;generalize UZ p=n at *;by_cases h1:l.lamp=1
 ·rw[yBd h1];refine eM call146 λF hF=>?_
  refine zW c ?_;exact zJ
 rw[yBc h1];by_cases h2:l.lamp=2
 ·rw[yBd h2];refine eM call146 λF hF=>?_
  refine WW ?_;exact zJ
 rw[yBc h2];by_cases h3:l.lamp=3
 ·rw[yBd h3];refine eM call146 λF hF=>?_
  refine WW ?_;exact zJ
 ·rw[yBc h3];refine eM call146 λF hF=>?_
  refine WW ?_;exact zJ
def PD (s:Sg) (n i:Nat):List Int:=WA (λp _=>coT (xN s.c p)) (List.replicate n 0) i
def EQ (j:Jn) (s:Sg) (n i:Nat):List Int:=WA (λp _=>cnT (yP j p) (xN s.c p)) (List.replicate n 0) i
def LJ (j:Jn) (s:Sg) (v:Sv):Vw:=if s.lat=true then vwZ j.ph.length else⟨false,v.ph != -1,PD s j.ph.length j.ph.length,EQ j s j.ph.length j.ph.length⟩
def yAl (n:Nat):List.replicate n (iA 0)=(List.replicate n (0:Int)).map iA:=by simp
theorem zI0 (j:Jn) (J:JV j) (s:Sg) (C:CV j s.c) (v:Sv):zO 114 [wE j,wY s,wV v] [] (vQ (LJ j s v)) []:=by
 have k:=zO6 j J.n.2;have hl:=zA wT j.ph;have hn:=J.n;have hll:(s.c.li.map vG).length=j.ph.length:=by rw[yBe];exact C.n
 unfold LJ;rw[yAl]at k;unfold wY wV
 cases hlat:s.lat with
 |true=>
  rw[yBd Z];unfold wE at *;refine eM call114 λF hF=>?_
  refine zW k ?_;refine zH [] Z Z ?_ Z
  show AV.agg [bA true,bA false,.sl false (List.take (j.ph.map wT).length ((List.replicate (j.ph.map wT).length (0:Int)).map iA)),.sl false (List.take (j.ph.map wT).length ((List.replicate (j.ph.map wT).length (0:Int)).map iA))]=_
  rw[yBo zQ,hl];rfl
 | false=>
  rw[yBc yBw];have e1:(List.replicate (j.ph.map wT).length (0:Int)).map iA=(PD s j.ph.length 0).map iA:=by unfold PD;rw[jC,hl]
  have e2:(List.replicate (j.ph.map wT).length (0:Int)).map iA=(EQ j s j.ph.length 0).map iA:=by unfold EQ;rw[jC,hl]
  have k:zO 111 [wE j] [] (.agg [bA true,bA false,.ref 1021 0 (j.ph.map wT).length,.ref 1022 0 (j.ph.map wT).length]) [(1021,.arr 1 ((PD s j.ph.length 0).map iA) false),(1022,.arr 1 ((EQ j s j.ph.length 0).map iA) false)]:=by rw[<-e1,<-e2];exact k
  clear e1 e2;have f1:∀i,((PD s j.ph.length i).map iA).length=j.ph.length:=λi=>by rw[yBe];unfold PD;rw[vA,yCw]
  have f2:∀i,((EQ j s j.ph.length i).map iA).length=j.ph.length:=λi=>by rw[yBe];unfold EQ;rw[vA,yCw]
  have g1:∀i,i<j.ph.length->(PD s j.ph.length (i+1)).map iA=((PD s j.ph.length i).map iA).set i (iA (coT (xN s.c i))):=λi hi=>by unfold PD;rw[qN _ _ _ _ zMe]
  have g2:∀i,i<j.ph.length->(EQ j s j.ph.length (i+1)).map iA=((EQ j s j.ph.length i).map iA).set i (iA (cnT (yP j i) (xN s.c i))):=λi hi=>by unfold EQ;rw[qN _ _ _ _ zMe]
  unfold wE zD at *;refine eM call114 λF hF=>?_
  refine zW k ?_;refine zN ((j.ph.map wT).length) [1021,1022,4,6,7] [4,6,7] [4,6,7,22,23] [24,4,6,7,22,23] Z (λi T U=>⟨(24,iA i)::T,(1021,.arr 1 ((PD s j.ph.length i).map iA) false)::(1022,.arr 1 ((EQ j s j.ph.length i).map iA) false)::U⟩) ?_;(conv=>whnf);refine⟨by rfl,?_,?_⟩
  ·intro i hi;have hi':i<j.ph.length:=by omega
   have hy:(j.ph.map wT)[i]? =some (wT (yP j i)):=zM wT j.ph i hi';have hz:(s.c.li.map vG)[i]? =some (vG (xN s.c i)):=zM vG s.c.li i (by have:=C.n;omega);have ht:=J.ti i hi';have hv:=C.k i hi';have x1:=f1 i;have x2:=f2 i;have y1:=g1 i hi';have y2:=g2 i hi'
   have htk: -1000000000000<=(xN s.c i).tk/\(xN s.c i).tk<=1000000000000:=by
    unfold TA at hv
    repeat' split at hv
    all_goals (first|(rw[yBi]at hv;omega)|cases hv)
   have kc:=zIz (yP j i) ⟨zB,zB,zB,zB⟩ (xN s.c i) htk (by unfold UZ;omega) zB zB;rw[y1,y2];have a1:((PD s j.ph.length i).map iA)[i]? =some (iA ((PD s j.ph.length i).getD i default)):=zM iA _ i (by rw[yBe]at x1;omega);have a2:(((PD s j.ph.length i).map iA).set i (iA 0))[i]? =some (iA 0):=by rw[yDe,yBd Z,yBd zB]
   have a3:((EQ j s j.ph.length i).map iA)[i]? =some (iA ((EQ j s j.ph.length i).getD i default)):=zM iA _ i (by rw[yBe]at x2;omega);clear y1 y2 g1 g2 f1 f2 k;generalize (PD s j.ph.length i).getD i default=v1 at *;generalize (EQ j s j.ph.length i).getD i default=v2 at *;generalize cnT (yP j i) (xN s.c i)=cc at *;generalize (PD s j.ph.length i).map iA=A at *;generalize (EQ j s j.ph.length i).map iA=B at *;generalize yP j i=p at *;unfold coT;generalize xN s.c i=l at *;obtain⟨lm,tk⟩:=l;dsimp only at *;by_cases h1:lm=1
   ·rw[yBd (.inl h1),<-yGi (a:=iA 0)];refine zW kc ?_;rfl
   by_cases h2:lm=2
   ·rw[yBd (.inr h2),<-yGi (a:=iA 0)];refine zW kc ?_;rfl
   ·rw[yBc (λh=>h.elim h1 h2)];refine zW kc ?_;rfl
  ·(refine WW ?_)
   refine zH [] Z Z ?_ Z
   show AV.agg [bA false,bA (v.ph != -1),.sl false (List.take (j.ph.map wT).length ((PD s j.ph.length (j.ph.map wT).length).map iA)),.sl false (List.take (j.ph.map wT).length ((EQ j s j.ph.length (j.ph.map wT).length).map iA))]=_
   rw[yBo (by rw[f1];omega),yBo (by rw[f2];omega),hl];rfl
def zS3 (j:Jn) (J:JV j) (s:Sg) (v:Sv):VwB (LJ j s v):=by
 have hn:=J.n.2;unfold LJ;split
 ·exact zZr hn
 ·refine⟨by show(PD _ _ _).length<=8;unfold PD;rw[vA,yCw];exact hn,by show(EQ _ _ _ _).length<=8;unfold EQ;rw[vA,yCw];exact hn,λx hx=>?_⟩;obtain⟨i,hi,rfl⟩:=yDn hx;have h1:=uP (λp (_:Int)=>coT (xN s.c p)) (List.replicate j.ph.length 0) j.ph.length i;unfold PD at hi⊢;rw[yBu hi]at h1;rw[vA]at hi;rw[yBd hi]at h1
  injection h1 with h1
  rw[h1];split
  ·unfold coT;split<;>omega
  ·rename_i hni;rw[yCw]at hi;omega
def PE (k:IntKind) (n:Int):Int:=k.wrap (BitVec.ofInt k.bits (if k.signed=true then -1 else k.max) ^^^ BitVec.ofInt k.bits n).toNat
def RT {P:Program} {st:St} {tx:Nat} {x:Operand} {k:IntKind} {n:Int} (hx:yK (zG st.tm) x= .s (.int k n)):wP P st (.unOp .xor tx x) (.s (.int k (PE k n))) [] [] []:=
 yN λo X tm h w β a ho hg _ _ Ht=>by
  obtain⟨dst,op',type,pos,after,guard⟩:=o;dsimp only at ho;subst ho;have h1:=vI Ht hg (x:=x) vX hx;exact⟨.int k (PE k n),by simp[execOp,h1,Op.unary,Op.intBits,PE],.fz _ _ (.s _)⟩
def uA (n:Int):AV:= .s (.int .u32 n)
def MB (a b:Int):Int:=IntKind.u32.wrap (BitVec.ofInt IntKind.u32.bits a ^^^ BitVec.ofInt IntKind.u32.bits b).toNat
def zO7 (a b:Int):Int:=IntKind.u32.wrap (BitVec.ofInt IntKind.u32.bits a &&& BitVec.ofInt IntKind.u32.bits b).toNat
def orU (a b:Int):Int:=IntKind.u32.wrap (BitVec.ofInt IntKind.u32.bits a ||| BitVec.ofInt IntKind.u32.bits b).toNat
def zYh (a:Int) (n:Nat):Int:=a.fdiv (2 ^ (min n IntKind.u32.bits))
def crS (r:Int):Int:=if zO7 r 1=1 then MB (zYh r 1) 3988292384 else zYh r 1
def crN (r:Int):Nat->Int
 |0=>r
 |i+1=>crS (crN r i)
def crB (r x:Int):Int:=crN (MB r x) 8
def crF (r:Int) (l:List Int):Int:=l.foldl crB r
def aG (l:List Int):Int:=PE .u32 (crF (PE .u32 0) l)
def ER (r:Int) (l:List Int) (x:Int):crF r (l++[x])=crB (crF r l) x:=by simp[crF]
section
variable {P:Program} {tm:List (Nat×AV)} {h:List (Nat×xM)} {tx ty:Nat} {x y:Operand} {m n:Int}
def WP (hx:yK (zG tm) x= .s (.int .u32 m)) (hy:yK (zG tm) y= .s (.int .u32 n)):wP P ⟨tm,h⟩ (.binOp .and tx x y ty) (.s (.int .u32 (zO7 m n))) [] [] []:=QL hx hy
def zO8 (hx:yK (zG tm) x= .s (.int .u32 m)) (hy:yK (zG tm) y= .s (.int .u32 n)):wP P ⟨tm,h⟩ (.binOp .or tx x y ty) (.s (.int .u32 (orU m n))) [] [] []:=HR hx hy
end
def zUt (r:Int) (l:List Int) (hl:l.length<=1000000) (hb:BY l):zO 182 [uA r,zD yA l] [] (uA (PE .u32 (crF (PE .u32 r) l))) []:=by
 have hll:=zA yA l;refine eM call182 λF hF=>?_
 (repeat' (first|refine uC ?_|((first|apply xE|apply xV)<;>intro hc)|(refine zE ?_;first|(refine CR ?_;refine wK (RT Z) Z ?_))|fail))
 generalize PE .u32 r=r0 at *;refine yO (l) [] [] [11,12] [5,13,11,12] Z (λi pre T U=>⟨(5,uA (crF r0 pre))::(13,iA i)::T,U⟩) ?_;(conv=>whnf);refine⟨by rfl,?_,?_⟩
 ·intro i pre x post hx hi;have hy:=xL yA hx hi;have hlt:=yQ hx hi;have hbx:=hb x (wZ hx);rw[ER];clear hx;generalize crF r0 pre=q at *;refine WW ?_;refine zN (8) [] [] [11,12,13] [5,21,11,12,13] Z (λi T U=>⟨(5,uA (crN (MB q x) i))::(21,iA i)::T,U⟩) ?_;(conv=>whnf);refine⟨by rfl,?_,?_⟩
  ·intro k hk;have e:crN (MB q x) (k+1)=crS (crN (MB q x) k):=rfl;rw[e];generalize crN (MB q x) k=z at *;unfold crS;by_cases hz:zO7 z 1=1
   ·rw[yBd hz]
    (repeat' (first|refine uC ?_|((first|apply xE|apply xV)<;>intro hc)|(refine zE ?_;first|(refine wO ?_;refine wK (WP Z Z) Z ?_))|fail))
    rfl
   ·rw[yBc hz]
    (repeat' (first|refine uC ?_|((first|apply xE|apply xV)<;>intro hc)|(refine zE ?_;first|(refine wO ?_;refine wK (WP Z Z) Z ?_))|fail))
    rfl
  ·(refine WW ?_)
   rfl
 ·(repeat' (first|refine uC ?_|((first|apply xE|apply xV)<;>intro hc)|(refine zE ?_;first|(refine CR ?_;refine wK (RT Z) Z ?_))|fail))
  exact zJ
def zS4 (l:List Int) (hl:l.length<=1000000) (hb:BY l):zO 138 [zD yA l] [] (uA (aG l)) []:=by
 have c:=zUt 0 l hl hb;refine eM call138 λF hF=>?_
 refine zW c ?_;exact zJ
def zO9 (r:Int) (l:List Int) (hl:l.length<=1000000) (hb:BY l):zO 100 [uA r,zD yA l] [] (uA (PE .u32 (crF (PE .u32 r) l))) []:=by
 have hll:=zA yA l;refine eM call100 λF hF=>?_
 (repeat' (first|refine uC ?_|((first|apply xE|apply xV)<;>intro hc)|(refine zE ?_;first|(refine CR ?_;refine wK (RT Z) Z ?_))|fail))
 generalize PE .u32 r=r0 at *;refine yO (l) [] [] [11,12] [5,13,11,12] Z (λi pre T U=>⟨(5,uA (crF r0 pre))::(13,iA i)::T,U⟩) ?_;(conv=>whnf);refine⟨by rfl,?_,?_⟩
 ·intro i pre x post hx hi;have hy:=xL yA hx hi;have hlt:=yQ hx hi;have hbx:=hb x (wZ hx);rw[ER];clear hx;generalize crF r0 pre=q at *;refine WW ?_;refine zN (8) [] [] [11,12,13] [5,21,11,12,13] Z (λi T U=>⟨(5,uA (crN (MB q x) i))::(21,iA i)::T,U⟩) ?_;(conv=>whnf);refine⟨by rfl,?_,?_⟩
  ·intro k hk;have e:crN (MB q x) (k+1)=crS (crN (MB q x) k):=rfl;rw[e];generalize crN (MB q x) k=z at *;unfold crS;by_cases hz:zO7 z 1=1
   ·rw[yBd hz]
    (repeat' (first|refine uC ?_|((first|apply xE|apply xV)<;>intro hc)|(refine zE ?_;first|(refine wO ?_;refine wK (WP Z Z) Z ?_))|fail))
    rfl
   ·rw[yBc hz]
    (repeat' (first|refine uC ?_|((first|apply xE|apply xV)<;>intro hc)|(refine zE ?_;first|(refine wO ?_;refine wK (WP Z Z) Z ?_))|fail))
    rfl
  ·(refine WW ?_)
   rfl
 ·(repeat' (first|refine uC ?_|((first|apply xE|apply xV)<;>intro hc)|(refine zE ?_;first|(refine CR ?_;refine wK (RT Z) Z ?_))|fail))
  exact zJ
def zUu (l:List Int) (hl:l.length<=1000000) (hb:BY l):zO 65 [zD yA l] [] (uA (aG l)) []:=by
 have c:=zO9 0 l hl hb;refine eM call65 λF hF=>?_
 refine zW c ?_;exact zJ
def zC7 (n:Int) (h0:0<=n) (h1:n<=200):zO 137 [iA n] [] (iA (6+n+4)) []:=by
 refine eM call137 λF hF=>?_
 refine WW ?_;exact zJ
def ES (l:List Int):Int:=l.foldl (λn x=>orU (IntKind.u32.wrap (n*2 ^ (min (8:Int).toNat IntKind.u32.bits))) x) 0
def zI1 (l:List Int) (hl:l.length<=1000000) (hb:BY l):zO 139 [zD yA l] [] (uA (ES l)) []:=by
 have hll:=zA yA l;refine eM call139 λF hF=>?_
 refine WW ?_;refine yO (l) [] [] [6,7] [3,8,6,7] Z (λi pre T U=>⟨(3,uA (ES pre))::(8,iA i)::T,U⟩) ?_;(conv=>whnf);refine⟨by rfl,?_,?_⟩
 ·intro i pre x post hx hi;have hy:=xL yA hx hi;have hlt:=yQ hx hi;have hbx:=hb x (wZ hx);rw[show ES (pre++[x])=orU (IntKind.u32.wrap (ES pre*2 ^ (min (8:Int).toNat IntKind.u32.bits))) x by simp[ES]];clear hx;generalize ES pre=q at*
  (repeat' (first|refine uC ?_|((first|apply xE|apply xV)<;>intro hc)|(refine zE ?_;first|(refine wO ?_;refine wK (zO8 Z Z) Z ?_))|fail))
  rfl
 ·(refine WW ?_)
  exact zJ
def be4 (s:Int):List Int:=(List.range 4).map λi:Nat=>IntKind.u8.wrap (s.fdiv (2 ^ (min (8*(3-(i:Int))).toNat IntKind.u32.bits)))
def bT (k:Int) (n:Nat):List Int:=[1,k,0,(n:Int)]
def frF (k:Int) (p:List Int):List Int:=90::165::(bT k p.length++p)++be4 (aG (bT k p.length++p))
def yAm (n:Nat) (z a b c d e f:AV) (ys:List AV) (hy:ys.length=n):((((((List.replicate (n+10) z).set 0 a).set 1 b).set 2 c).set 3 d).set 4 e).set 5 f=a::b::c::d::e::f::List.replicate (n+4) z:=by
 rw[show n+10=n+4+1+1+1+1+1+1 by omega];simp[yE5]
def zI2 (A B:List Int) (z:Int) (i:Nat) (hi:i<B.length):(A++B.take i++List.replicate (B.length-i) z).set (A.length+i) (B.getD i default)=A++B.take (i+1)++List.replicate (B.length-(i+1)) z:=by
 have h1:(A++B.take i).length=A.length+i:=by rw[yBf,yB4];omega
 rw[show B.length-i=B.length-(i+1)+1 by omega,yE5,yEa _ _ zB,h1,yDh,yFx,yBl,yBu hi,yFq hi];simp only[yCa,yD0,yDk,yDi]
def zPa (s:Int):(be4 s).length=4:=rfl
section
variable {P:Program} {TT:List TI} {K0:List Nat} {F:Fr K0} {m:Nat} {ops:Array Oper} {rest:List Oper} {Q:List FP->St->Prop} {tm:List (Nat×AV)} {h:List (Nat×xM)} {dr:Bool} {fs:List FP} {ty:Nat} {pos:String} {after:Array Edge} {t:Nat}
def zI3 (hP:uG P TT) {T e key len sz:Nat} {x l r:Operand} {ti te:TI} {xs:List AV} {sl:Fl} {k1 k2:IntKind} {i j:Int} (hx:yK (zG tm) x= .ref key 0 len) (hk:zC h key=some (.arr sz xs sl)) (hl:yK (zG tm) l= .s (.int k1 i)) (hr:yK (zG tm) r= .s (.int k2 j)) (hT:TT[T]? =some ti) (hd:ti.d= .slice e) (he:TT[e]? =some te)
  (hsz:Nat.beq sz te.size=true) (a b:Nat) (ha:i=a) (hb:j=b) (h0:a<=b) (h1:b<=len) (hm:Nat.blt t m=true) (hq:zX P F m ops dr rest ⟨(t,.ref key a (b-a))::tm,h⟩ (⟨true,[],[key]⟩::fs) Q):
  zX P F m ops dr (⟨some t,.slice T x (some l) (some r) none,ty,pos,after,none⟩::rest) ⟨tm,h⟩ fs Q:=by
 have:=gZ (P:=P) (st:=⟨tm,h⟩) (lo:=some l) (hi:=some r) (l:=a) (r:=b) hP hx hk hT hd he ⟨k1,i,hl,zB⟩ ⟨k2,j,hr,zB⟩ h0 h1 hsz;rw[yCv]at this;exact wK this hm hq
end
def fr6 (k:Int) (p:List Int):List AV:=((((((List.replicate (p.length+10) (yA 0)).set 0 (yA 90)).set 1 (yA 165)).set 2 (yA 1)).set 3 (yA k)).set 4 (.s (.int .u8 (IntKind.u8.wrap (uQ (((p.map yA).length:Nat):Int) 8))))).set 5 (.s (.int .u8 (((p.map yA).length:Nat):Int)))
def fr7 (k:Int) (p:List Int):List AV:=(fr6 k p).take 6++p.map yA++(fr6 k p).drop (6+(p.map yA).length)
def ET (k:Int) (p:List Int) (i:Nat):List Int:=(90::165::(bT k p.length++p))++(be4 (aG (bT k p.length++p))).take i++List.replicate (4-i) 0
def zUv (k:Int) (p:List Int) (hp:p.length<=200):fr7 k p=(ET k p 0).map yA:=by
 have h1:IntKind.u8.wrap (uQ (((p.map yA).length:Nat):Int) 8)=0:=by
  have:uQ (((p.map yA).length:Nat):Int) 8=0:=by
   unfold uQ;rw[yBe,yEw _ xO]
   show(p.length:Int)/256=0
   omega
  rw[this];rfl
 have h2:fr6 k p=yA 90::yA 165::yA 1::yA k::yA 0::yA p.length::List.replicate (p.length+4) (yA 0):=by
  unfold fr6;rw[h1,yBe];exact yAm p.length (yA 0) _ _ _ _ _ _ (p.map yA) (yBe ..)
 unfold fr7 ET bT;rw[h2,yBe];simp only[yGx,yEb,yD0,yDk,yCh,yBn,yCd,yEy,yF6,yCa];rw[show 6+p.length=p.length+1+1+1+1+1+1 by omega];simp only[yEr,List.drop_replicate];rw[show p.length+4-p.length=4 by omega]
def zS5 {k:Int} {p:List Int} (k0:0<=k) (k1:k<=255) (hb:BY p) (hp:p.length<=200):BY (bT k p.length++p):=by
 intro x hx
 rcases yBy.1 hx with hx|hx
 ·unfold bT at hx;simp only[yCk,yFo,yGp]at hx;omega
 ·exact hb x hx
theorem zUw (k:Int) (p:List Int) (k0:0<=k) (k1:k<=255) (hb:BY p) (hp:p.length<=200):zO 135 [iA k,zD yA p] [] (.tup [zD yA (frF k p),iA 0]) []:=by
 have hlp:=zA yA p;have kz:=zC7 ((p.map yA).length) zB zB;have hh:∀y,(p.map yA)[0]? =some y->y.cells.length=1:=yV _ _ (λ_=>rfl);have hnn:6+((p.map yA).length:Int)+4=((p.length+10:Nat):Int):=by omega
 rw[hnn]at kz;have hX:=zUv k p hp;have hdb:=zS5 k0 k1 hb hp
 have kc:zO 138 [.sl false (((fr7 k p).drop 2).take (6+p.length-2))] [] (uA (aG (bT k p.length++p))) []:=by
  rw[hX,<-yFd,<-yFe]
  have e:((ET k p 0).drop 2).take (6+p.length-2)=bT k p.length++p:=by
   unfold ET;rw[yEb,yCd,yD0,yD0,yEr,yEr,yCg];exact List.take_left' (by unfold bT;simp;omega)
  rw[e];exact zS4 _ (by unfold bT;simp;omega) hdb
 unfold fr7 fr6 at kc hX;unfold frF;have hbl:=zPa (aG (bT k p.length++p))
 have hfl:∀i,i<4->(ET k p (i+1)).map yA=((ET k p i).map yA).set (p.length+6+i) (yA ((be4 (aG (bT k p.length++p))).getD i default)):=λi hi=>by
  have h1:=zI2 (90::165::(bT k p.length++p)) (be4 (aG (bT k p.length++p))) 0 i (by rw[hbl];exact hi);rw[hbl,show(90::165::(bT k p.length++p)).length+i=p.length+6+i by simp[bT]<;>omega]at h1;unfold ET;rw[<-h1,yDa]
 refine eM call135 λF hF=>?_
 (have zc1:=kz;have zc2:=kc;(repeat' (first|refine uC ?_|((first|apply xE|apply xV)<;>intro hc)|(refine zE ?_;first|refine SM ?_|(refine jI ?_;first|refine fB tok Z Z Z Z Z Z Z zB zB Z ?_|refine zI3 tok Z Z Z Z Z Z Z Z 2 (6+p.length) Z zB zB zB Z ?_)|(refine qA (OV tok Z Z Z Z Z Z Z hh Z (by show _<=p.length+4;omega)) Z Z Z ?_))|fail))<;>clear zc1 zc2)
 refine zN (4) [23] [] [6,7,8] [52,6,7,8] Z (λi T U=>⟨(52,iA i)::T,(23,.arr 1 ((ET k p i).map yA) false)::U⟩) ?_;(conv=>whnf);refine⟨by(rw[<-hX];rfl),?_,?_⟩
 ·intro i hi;have e:=hfl i hi
  have hbe:(be4 (aG (bT k p.length++p))).getD i default=IntKind.u8.wrap ((aG (bT k p.length++p)).fdiv (2 ^ (min (8*(3-(i:Int))).toNat IntKind.u32.bits))):=by
   unfold be4;rw[yBl,yBh,yCe hi];rfl
  rw[hbe,show p.length+6+i=(6+(p.length:Int)+i).toNat by omega]at e;rw[e];clear hfl hX kc e hbe
  have hlen:((ET k p i).map yA).length=p.length+10:=by
   unfold ET;simp[bT,be4];omega
  have hy:((ET k p i).map yA)[(6+(p.length:Int)+i).toNat]? =some (yA ((ET k p i).getD (6+(p.length:Int)+i).toNat default)):=zM yA _ _ (by rw[yBe]at hlen;omega);generalize (ET k p i).getD (6+(p.length:Int)+i).toNat default=y0 at *;rw[<-hlp]at hy⊢;generalize aG (bT k p.length++p)=s at *;generalize (ET k p i).map yA=X at *;refine WW ?_;rfl
 ·(refine WW ?_)
  refine zH [] Z Z ?_ Z
  show AV.tup [.sl false (List.take (p.length+10) ((ET k p 4).map yA)),iA 0]=_
  have e:ET k p 4=90::165::(bT k p.length++p)++be4 (aG (bT k p.length++p)):=by
   unfold ET;rw[yBo (by rw[hbl];omega),yDh,yFt,yCd]
  rw[e,yBo (by rw[yBe];simp[bT,be4]<;>omega)];rfl
def zUx (y:Int):0<=IntKind.u8.wrap y/\IntKind.u8.wrap y<256:=by
 unfold IntKind.wrap;simp[IntKind.signed,IntKind.bits];omega
theorem zPb (k:Int) (p:List Int) (k0:0<=k) (k1:k<=255) (hb:BY p) (hp:p.length<=200):∃q,BY q/\q.length=p.length+10/\zO 29 [iA k,zD yA p] [] (.tup [.ref 1031 0 (q.map yA).length,iA 0]) [(1031,.arr 1 (q.map yA) true)]:=by
 have hlp:=zA yA p;have hh:∀y,(p.map yA)[0]? =some y->y.cells.length=1:=yV _ _ (λ_=>rfl)
 have hu:IntKind.u8.wrap (uQ (((p.map yA).length:Nat):Int) 8)=0:=by
  have:uQ (((p.map yA).length:Nat):Int) 8=0:=by
   unfold uQ;rw[yBe,yEw _ xO]
   show(p.length:Int)/256=0
   omega
  rw[this];rfl
 have hdb:=zS5 k0 k1 hb hp;have kc:=zUu (bT k p.length++p) (by unfold bT;simp;omega) hdb
 have kc:zO 65 [.sl false ((([AV.s (.int .u8 90),.s (.int .u8 165),.s (.int .u8 1),.s (.int .u8 k),.s (.int .u8 (IntKind.u8.wrap (uQ (((p.map yA).length:Nat):Int) 8))),.s (.int .u8 (((p.map yA).length:Nat):Int))]++p.map yA).drop 2).take (([AV.s (.int .u8 90),.s (.int .u8 165),.s (.int .u8 1),.s (.int .u8 k),.s (.int .u8 (IntKind.u8.wrap (uQ (((p.map yA).length:Nat):Int) 8))),.s (.int .u8 (((p.map yA).length:Nat):Int))]++p.map yA).length-2))] [] (uA (aG (bT k p.length++p))) []:=by
  rw[hu,yBe];rw[yBo zQ];exact kc
 generalize aG (bT k p.length++p)=s at *;refine⟨90::165::(bT k p.length++p)++[IntKind.u8.wrap (s.fdiv (2 ^ (min (24:Int).toNat IntKind.u32.bits))),IntKind.u8.wrap (s.fdiv (2 ^ (min (16:Int).toNat IntKind.u32.bits))),IntKind.u8.wrap (s.fdiv (2 ^ (min (8:Int).toNat IntKind.u32.bits))),IntKind.u8.wrap s],?_,?_,?_⟩
 ·intro x hx
  rcases yBy.1 hx with hx|hx
  ·simp only[yCk]at hx
   rcases hx with rfl|rfl|hx
   ·omega
   ·omega
   ·exact hdb x hx
  ·simp only[yCk,yFo,yGp]at hx
   rcases hx with rfl|rfl|rfl|rfl<;>exact zUx _
 ·simp[bT]
 have hX:(90::165::(bT k p.length++p)++[IntKind.u8.wrap (s.fdiv (2 ^ (min (24:Int).toNat IntKind.u32.bits))),IntKind.u8.wrap (s.fdiv (2 ^ (min (16:Int).toNat IntKind.u32.bits))),IntKind.u8.wrap (s.fdiv (2 ^ (min (8:Int).toNat IntKind.u32.bits))),IntKind.u8.wrap s]).map yA=([AV.s (.int .u8 90),.s (.int .u8 165),.s (.int .u8 1),.s (.int .u8 k),.s (.int .u8 (IntKind.u8.wrap (uQ (((p.map yA).length:Nat):Int) 8))),.s (.int .u8 (((p.map yA).length:Nat):Int))]++p.map yA)++[.s (.int .u8 (IntKind.u8.wrap (s.fdiv (2 ^ (min (24:Int).toNat IntKind.u32.bits))))),.s (.int .u8 (IntKind.u8.wrap (s.fdiv (2 ^ (min (16:Int).toNat IntKind.u32.bits))))),.s (.int .u8 (IntKind.u8.wrap (s.fdiv (2 ^ (min (8:Int).toNat IntKind.u32.bits))))),.s (.int .u8 (IntKind.u8.wrap s))]:=by
  rw[hu,yBe];simp only[bT,yBn,yCh,yD2,yD0,yDk,yCa];rfl
 rw[hX];refine eM call29 λF hF=>?_
 (have zc1:=kc;(repeat' (first|refine bW ?_|((first|apply xE|apply xV)<;>intro hc)|(refine zE ?_;first|(refine yR ?_;first|refine qA (nw:=[1031]) (yJ tok 1031 (xs:=[_,_,_,_,_,_]) Z Z Z Z Z Z Z Z Z) Z Z Z ?_|refine qH tok Z Z ?_)|(refine jI ?_;refine fB tok Z Z Z Z Z Z Z zB (by simp<;>omega) Z ?_))|refine SB ?_|fail))<;>clear zc1)
 exact zK [1031] Z Z Z Z
def zI4 (m:Ms) (h:MgP m):∃q,BY q/\q.length<=210/\zO 28 [yB m] [] (.tup [.ref 1031 0 (q.map yA).length,iA 0]) [(1031,.arr 1 (q.map yA) true)]:=by
 obtain⟨p,h1,h2,c1⟩:=zXp m h;have hk:=h.k;obtain⟨q,q1,q2,c2⟩:=zPb m.kind p zB zB h1 h2;refine⟨q,q1,zB,?_⟩;unfold yB at *;refine eM call28 λF hF=>?_
 refine yS (vH c1 c2) ?_;exact zK [1031] Z Z Z Z
def EU (m:Ms) (h:MgP m):∃q,BY q/\q.length<=210/\zO 13 [yB m] [] (.ref 1031 0 (q.map yA).length) [(1031,.arr 1 (q.map yA) true)]/\zO 13 [yB m] [] (zD yA q) []:=by
 obtain⟨q,q1,q2,c2⟩:=zI4 m h;refine⟨q,q1,q2,?_,?_⟩
 ·unfold yB at *;refine eM call13 λF hF=>?_
  refine zW c2 ?_;exact zK [1031] Z Z Z Z
 ·unfold yB at *;refine eM call13 λF hF=>?_
  refine zW c2 ?_;exact zH [] Z Z (yB8 (AV.sl false) yBj) Z
def EV (m:Ms) (h:MgP m):∃q,BY q/\q.length<=210/\zO 13 [yB m] [] (zD yA q) []:=by
 obtain⟨q,q1,q2,_,c2⟩:=EU m h;exact⟨q,q1,q2,c2⟩
def jP (l:List Ag):Nat->Int
 |0=>0
 |i+1=>jP l i+(l.getD i default).ses
def FD (l:List Ag):Prop:=l.length<=4/\∀a∈l,1<=a.ses/\a.ses<=2
theorem FD.at {l:List Ag} (h:FD l) {i:Nat} (hi:i<l.length):1<=(l.getD i default).ses/\(l.getD i default).ses<=2:=by
 refine h.2 _ ?_;rw[yBl,yBu hi];exact yD1 _
theorem jG {l:List Ag} (h:FD l):∀i,i<=l.length->(i:Int)<=jP l i/\jP l i<=2*i
 |0,_=>⟨yC8 _,yC8 _⟩
 |i+1,hi=>by
  have h1:=jG h i zB;have h2:=h.at (i:=i) zB;unfold jP;omega
def zPc (c:Cf) (h:FD c.ags):zO 48 [wN c] [] (iA (jP c.ags c.ags.length)) []:=by
 have hal:=zA vB c.ags;have hn:=h.1;unfold wN zD;refine eM call48 λF hF=>?_
 refine WW ?_;refine zN ((c.ags.map vB).length) [] [] [7,8] [3,9,7,8] Z (λi T U=>⟨(3,iA (jP c.ags i))::(9,iA i)::T,U⟩) ?_;(conv=>whnf);refine⟨by rfl,?_,?_⟩
 ·intro i hi;have hy:=zM vB c.ags i zB;have h2:=h.at (i:=i) zB;have hb:=jG h i zB;rw[show jP c.ags (i+1)=jP c.ags i+(c.ags.getD i default).ses from Z];generalize jP c.ags i=z at *;generalize c.ags.getD i default=a at *;refine WW ?_;rfl
 ·rw[hal];refine WW ?_;exact zJ
def AX (l:List Ag) (g:Int):Nat->Int
 |0=>0
 |i+1=>if(i:Int)<g then AX l g i+(l.getD i default).ses else AX l g i
theorem zAk {l:List Ag} (h:FD l) (g:Int):∀i,i<=l.length->0<=AX l g i/\AX l g i<=2*i
 |0,_=>⟨yC8 _,yC8 _⟩
 |i+1,hi=>by
  have h1:=zAk h g i zB;have h2:=h.at (i:=i) zB;unfold AX
  split<;>omega
def zPd (c:Cf) (h:FD c.ags) (g:Int):zO 50 [wN c,iA g] [] (iA (AX c.ags g c.ags.length)) []:=by
 have hal:=zA vB c.ags;have hn:=h.1;unfold wN zD;refine eM call50 λF hF=>?_
 refine WW ?_;refine zN ((c.ags.map vB).length) [] [] [1,9,10] [5,11,1,9,10] Z (λi T U=>⟨(5,iA (AX c.ags g i))::(11,iA i)::T,U⟩) ?_;(conv=>whnf);refine⟨by rfl,?_,?_⟩
 ·intro i hi;have hy:=zM vB c.ags i zB;have h2:=h.at (i:=i) zB;have hb:=zAk h g i zB;by_cases hg:(i:Int)<g
  ·rw[show AX c.ags g (i+1)=AX c.ags g i+(c.ags.getD i default).ses from yBd hg];generalize AX c.ags g i=z at *;generalize c.ags.getD i default=a at *;refine WW ?_;rfl
  ·rw[show AX c.ags g (i+1)=AX c.ags g i from yBc hg];generalize AX c.ags g i=z at *;generalize c.ags.getD i default=a at *;refine WW ?_;rfl
 ·rw[hal];refine WW ?_;exact zJ
def EW:List Ag->Int->Nat->Option (Nat×Int)
 | [],_,_=>none
 |a::l,s,i=>if s<a.ses then some (i,s)else EW l (s-a.ses) (i+1)
def zPe (l:List Ag) (s:Int) (i:Nat) (h:i<l.length):EW (l.drop i) s i=if s<(l.getD i default).ses then some (i,s)else EW (l.drop (i+1)) (s-(l.getD i default).ses) (i+1):=by
 have e:l.getD i default=l[i]:=by simp[List.getD,h]
 rw[<-List.getElem_cons_drop h,e];rfl
def zAl (l:List Ag) (s:Int):Int:=match EW l s 0 with
 |some p=>p.1
 |none=>0
theorem zC8:∀(l:List Ag) (s:Int) (i:Nat) (p:Nat×Int),EW l s i=some p->p.1<i+l.length
 | [],_,_,_,h=>by cases h
 |a::l,s,i,p,h=>by
  unfold EW at h;split at h
  ·cases h;simp only[yBp];omega
  ·have:=zC8 l _ _ p h;simp only[yBp];omega
def zUy {l:List Ag} (h:FD l) (s:Int):0<=zAl l s/\zAl l s<4:=by
 unfold zAl;split
 ·rename_i p hp;have:=zC8 l s 0 p hp;have:=h.1;omega
 ·omega
def zI5 (c:Cf) (h:FD c.ags) (s:Int) (s0: -1000<=s) (s1:s<=1000):zO 55 [wN c,iA s] [] (iA (zAl c.ags s)) []:=by
 have hal:=zA vB c.ags;have hn:=h.1;unfold zAl wN zD;refine eM call55 λF hF=>?_
 refine WW ?_;refine xR ((c.ags.map vB).length) [] [] [8,9] [1,10,8,9] Z (λi T U zs=>∃(z:Int),(EW c.ags s 0=EW (c.ags.drop i) z i/\ -1000-2*(i:Int)<=z/\z<=1000)/\zs=⟨(1,iA z)::(10,iA i)::T,U⟩) ?_;(conv=>whnf);refine⟨?_,?_,?_⟩
 ·exact⟨s,⟨rfl,zB,zB⟩,rfl⟩
 ·rintro i st hi ⟨z,⟨hz,z0,z1⟩,rfl⟩;have hy:=zM vB c.ags i zB;have h2:=h.at (i:=i) zB;rw[zPe c.ags z i zB]at hz;generalize hD:c.ags.drop (i+1)=D at *;generalize c.ags.getD i default=a at *;by_cases ha:z<a.ses
  ·rw[yBd ha]at hz;rw[hz];refine WW ?_;exact zJ
  ·rw[yBc ha]at hz;refine WW ?_;exact⟨_,⟨hz,zB,zB⟩,rfl⟩
 ·rintro st ⟨z,⟨hz,z0,z1⟩,rfl⟩;rw[hal,yE6]at hz;rw[hz];refine WW ?_;exact zJ
structure UR (e:Ev):Prop where
 k:1<=e.k/\e.k<=6
 s:0<=e.s/\e.s<=100
 a:0<=e.a/\e.a<=100
 b:0<=e.b/\e.b<=100
 y:BY e.y
 n:e.y.length<=1000
def evb {k s a b:Int} {y:List Int} (hk:1<=k/\k<=6) (hs:0<=s/\s<=100) (ha:0<=a/\a<=100) (hb:0<=b/\b<=100) (hy:BY y) (hn:y.length<=1000):UR ⟨k,s,a,b,y⟩:=⟨hk,hs,ha,hb,hy,hn⟩
def kU:BY []:=λx hx=>by cases hx
theorem zUz (c:Cf) (s:Int) (s0:0<=s) (s1:s<=100) (cm:Bool) (d:Dk):∃(e:Ev) (d':Dk),UR e/\rem d'<=rem d/\zO 53 [.ptr 1000 0 0,wN c,iA s,bA cm] [(1000,dZ d)] (uY e) [(1000,dZ d')]:=by
 have k1:=yH d 6 zB zB;have b1:=yC d 6 zB;have r1:=wG d;generalize nx d 6=k at *;generalize ad d=d1 at *;unfold uY zD;by_cases h0:k=0
 ·refine⟨⟨2,s,0,0,[]⟩,d1,evb zB zB zB zB kU zQ,r1,?_⟩;refine eM call53 λF hF=>?_
  refine zW k1 ?_;exact zH [1000] Z Z Z Z
 by_cases h1:k=1
 ·refine⟨⟨1,s,0,0,[]⟩,d1,evb zB zB zB zB kU zQ,r1,?_⟩;refine eM call53 λF hF=>?_
  refine zW k1 ?_;exact zH [1000] Z Z Z Z
 by_cases h2:k=2
 ·have k2:=yH d1 4 zB zB;have b2:=yC d1 4 zB;have r2:=wG d1;have k3:=yH (ad d1) 50 zB zB;have b3:=yC (ad d1) 50 zB;have r3:=wG (ad d1);have k4:=eU (nx (ad d1) 50);refine⟨⟨4,0,nx d1 4,0,dK (nx (ad d1) 50)⟩,ad (ad d1),evb zB zB zB zB (ZM _) (by rw[jA];omega),zB,?_⟩;generalize nx (ad d1) 50=q at *;generalize nx d1 4=p at *;generalize dK q=y at *;refine eM call53 λF hF=>?_
  refine yS (bY k1 k2 k3 k4) ?_;exact zH [1000] Z Z Z Z
 cases cm with
 |true=>
  refine⟨⟨6,0,0,0,[]⟩,d1,evb zB zB zB zB kU zQ,r1,?_⟩;refine eM call53 λF hF=>?_
  refine zW k1 ?_;exact zH [1000] Z Z Z Z
 |false=>
 by_cases h3:k=3
 ·have k2:=yH d1 3 zB zB;have b2:=yC d1 3 zB;have r2:=wG d1;have k3:=yH (ad d1) 9 zB zB;have b3:=yC (ad d1) 9 zB;have r3:=wG (ad d1);refine⟨⟨5,0,nx d1 3,nx (ad d1) 9,[]⟩,ad (ad d1),evb zB zB zB zB kU zQ,zB,?_⟩;generalize nx (ad d1) 9=q at *;generalize nx d1 3=p at *;refine eM call53 λF hF=>?_
  refine yS (gW k1 k2 k3) ?_;exact zH [1000] Z Z Z Z
 by_cases h4:k=4
 ·have k2:=yH d1 120 zB zB;have b2:=yC d1 120 zB;have r2:=wG d1;refine⟨⟨3,s,0,0,List.replicate (150+nx d1 120).toNat 0⟩,ad d1,evb zB zB zB zB (λx hx=>by have:=(yFa.1 hx).2;omega) (by rw[yCw];omega),zB,?_⟩;generalize nx d1 120=q at *;refine eM call53 λF hF=>?_
  have hnx:150+q=(((150+q).toNat:Nat):Int):=by omega
  (have zc1:=k1;have zc2:=k2;(repeat' (first|refine uC ?_|((first|apply xE|apply xV)<;>intro hc)|(refine zE ?_;first|(refine hH ?_;refine zD0 tok Z Z Z Z Z Z Z Z Z Z Z Z hnx zB zB Z Z Z ?_))|fail))<;>clear zc1 zc2)
  have e:List.take (150+q).toNat (List.drop 0 (List.replicate (150+q).toNat (yA 0)))=(List.replicate (150+q).toNat 0).map yA:=by rw[yCg,yBo zQ,yEy]
  exact zH [1000] Z Z (yB8 (λz=>AV.agg [iA 3,iA s,iA 0,iA 0,.sl false z]) e) Z
 ·have k2:=zNz d1 9 zB zB;have b2:=yC d1 (9+1) zB;obtain⟨p1,p2,p3⟩:=zB8 (ad d1) (nx d1 (9+1)).toNat;have r2:=wG d1;refine⟨⟨3,s,0,0,(fG (ad d1) (nx d1 (9+1)).toNat).1⟩,(fG (ad d1) (nx d1 (9+1)).toNat).2,evb zB zB zB zB p3 zB,zB,?_⟩;generalize (fG (ad d1) (nx d1 (9+1)).toNat).1=y at *;generalize (fG (ad d1) (nx d1 (9+1)).toNat).2=d2 at *;refine eM call53 λF hF=>?_
  refine yS (vH k1 k2) ?_;exact zH [1000] Z Z Z Z
def LK (l:List Ev) (n:Nat):Prop:=l.length<=n/\∀e∈l,UR e
theorem LK.nil:LK [] 0:=⟨yBg _,λe h=>by cases h⟩
theorem LK.app {l:List Ev} {n:Nat} (h:LK l n) {e:Ev} (he:UR e):LK (l++[e]) (n+1):=
 ⟨by have:=h.1;rw[yBf,yDu];omega,λx hx=>(yBy.1 hx).elim (h.2 x) λhx=>by rw[yCf.1 hx];exact he⟩
theorem LK.le {l:List Ev} {n m:Nat} (h:LK l n) (hm:n<=m):LK l m:=⟨yCp h.1 hm,h.2⟩
def zU0 (g v:Int) (hg:0<=g/\g<256) (hv:0<=v/\v<=100):MgP ⟨4,g::0::dK (1000+g),[v,v.tmod 2],[]⟩:=by
 have h1:=yHd 2 hv.1;have h2:v.tmod 2<2:=yG1 v zB;exact⟨IO hg zB (ZM _),by simp[jA],by dsimp only;omega,.cons zB (.cons zB .nil),⟨0,zB,λh=>absurd Z h,rfl⟩,rfl⟩
structure RU (c:Cf):Prop where
 j:1<=c.js.length/\c.js.length<=4
 jv:∀j∈c.js,JV j
 a:1<=c.ags.length/\c.ags.length<=4
 av:∀a∈c.ags,AgV a
 p:1<=c.per/\c.per<=600
 cp:0<=c.cap/\c.cap<=100
 h:1<=c.hold/\c.hold<=60
 l:0<=c.lock/\c.lock<=600
def zS {α:Type} [Inhabited α] (l:List α) (i:Nat) (h:i<l.length):l.getD i default∈l:=by
 rw[yBl,yBu h];exact yD1 _
theorem RU.w {c:Cf} (h:RU c):CfW c:=⟨h.j.2,λj hj=>(h.jv j hj).n⟩
theorem RU.ag {c:Cf} (h:RU c):FD c.ags:=⟨h.a.2,λa ha=>(h.av a ha).e⟩
def zS6 (d:Dk) (r:Int) (hr:0<=r/\r<=63):RU (PR d r):=by
 have hn:=zZ0 d r;have h1:=yC d (4-1+1) zB;have h2:=yC (ad d) 4 zB;have h3:=yC (ad (ad d)) (3-1+1) zB;have h4:=yC (ad (ad (ad d))) 5 zB;refine⟨zB,λj hj=>?_,zB,λa ha=>?_,?_,?_,?_,?_⟩
 ·rw[zNw]at hj;obtain⟨e,rfl⟩:=zEn _ _ j hj;exact zVd e
 ·obtain⟨i,hi,rfl⟩:=yDn ha;have:=(zXl d r hr (i:Int) zB zB).1.v;rw[show(i:Int).toNat=i from Z]at this;rw[show(PR d r).ags[i]=(PR d r).ags.getD i default by simp[List.getD,hi]];exact this
 all_goals (unfold PR;dsimp only;omega)
def zE9 (c:Cf) (h:RU c):zO 110 [wN c] [] (bA true) []:=by
 have hj:=h.j;have ha:=h.a;have hjl:=zA wE c.js;have hal:=zA vB c.ags;have w1:=eP ((c.js.map wE).length:Int) 1 4 zB;have w2:=eP ((c.ags.map vB).length:Int) 1 4 zB;have w3:=eP c.per 1 600 h.p;have w4:=eP c.cap 0 100 h.cp;have w5:=eP c.hold 1 60 h.h;have w6:=eP c.lock 0 600 h.l;unfold wN zD;refine eM call110 λF hF=>?_
 refine yS (vH w1 w2) ?_;refine zN ((c.js.map wE).length) [1] [1] [1,20,21] [22,1,20,21] Z (λi T U=>⟨(22,iA i)::T,U⟩) ?_;(conv=>whnf);refine⟨by rfl,?_,?_⟩
 ·intro i hi;have hy:=zM wE c.js i zB;have kj:=SI _ (h.jv _ (zS c.js i zB));generalize c.js.getD i default=j at *;refine zW kj ?_;rfl
 ·(refine WW ?_)
  refine zN ((c.ags.map vB).length) [1] [1] [1,31,32] [33,1,31,32] Z (λi T U=>⟨(33,iA i)::T,U⟩) ?_;(conv=>whnf);refine⟨by rfl,?_,?_⟩
  ·intro i hi;have hy:=zM vB c.ags i zB;have kj:=zFp _ (h.av _ (zS c.ags i zB));generalize c.ags.getD i default=a at *;refine zW kj ?_;rfl
  ·(refine yS (bY w3 w4 w5 w6) ?_)
   exact zJ
def NU (c:Cf) (i:Nat):List xH:=(List.range i).map λk:Nat=>NG (k:Int) (c.ags.getD k default) (c.ags.getD k default).ses.toNat
def RD (j:Jn):Sv:=zPg j.ph.length
def aH (c:Cf):Cy:=⟨c,false,0,NU c c.ags.length,c.js.map jT,c.js.map RD,c.js.map λ_=> -1,c.js.map λj=>LJ j (jT j) (RD j)⟩
theorem zU1 (c:Cf) (h:RU c):zO 76 [wN c] [] (uB (aH c)) []:=by
 have kp:=zE9 c h;have hj:=h.j;have ha:=h.a;have hjl:=zA wE c.js;have hal:=zA vB c.ags;have hdl:∀i,((NU c i).map zI).length=i:=λi=>by simp[NU]
 have hfin:uB (aH c)= .agg [zD wE c.js,zD vB c.ags,iA c.per,iA c.cap,iA c.hold,iA c.lock,bA false,iA 0,zD zI (NU c c.ags.length),zD wY (c.js.map jT),zD wV (c.js.map RD),zD iA (c.js.map λ_=> -1),zD vQ (c.js.map λj=>LJ j (jT j) (RD j))]:=rfl;rw[hfin];unfold wN zD at *;refine eM call76 λF hF=>?_
 refine zW kp ?_;refine uI 3 8 1011 17 Z Z Z Z Z ?_;refine zN ((c.ags.map vB).length) [3,1011,1,2] [1,2] [1,2,3,35,36] [37,1,2,3,35,36] Z (λi T U=>⟨(37,iA i)::T,(3,.box [.sl false (c.js.map wE),.sl false (c.ags.map vB),iA c.per,iA c.cap,iA c.hold,iA c.lock,bA false,iA 0,.ref 1011 0 ((NU c i).map zI).length,.s (.slice none 0 0),.s (.slice none 0 0),.s (.slice none 0 0),.s (.slice none 0 0)])::(1011,.arr 17 ((NU c i).map zI) true)::U⟩) ?_;(conv=>whnf);refine⟨by rfl,?_,?_⟩
 ·intro i hi;have hy:=zM vB c.ags i zB;have kd:=(zZ3 (i:Int) _ (h.av _ (zS c.ags i zB))).1;have e:(NU c (i+1)).map zI=(NU c i).map zI++[zI (NG (i:Int) (c.ags.getD i default) (c.ags.getD i default).ses.toNat)]:=by unfold NU;rw[yDs,yBn,yBn];rfl
  have hdl:=hdl i;rw[e];clear kp hfin e;generalize NG (i:Int) (c.ags.getD i default) (c.ags.getD i default).ses.toNat=dk at *;generalize c.ags.getD i default=a at *;generalize (NU c i).map zI=X at *;unfold zI wF at*
  (have zc1:=kd;(repeat' (first|refine bW ?_|((first|apply xE|apply xV)<;>intro hc)|(refine zE ?_;first|(refine yR ?_;refine qH tok Z Z ?_))|refine SB ?_|fail))<;>clear zc1)
  rfl
 ·(refine WW ?_)
  refine uI 3 9 1012 5 Z Z Z Z Z ?_;refine uI 3 10 1013 3 Z Z Z Z Z ?_;refine uI 3 11 1014 1 Z Z Z Z Z ?_;refine uI 3 12 1015 4 Z Z Z Z Z ?_;rw[hal];refine zN ((c.js.map wE).length) [3,1012,1013,1014,1015,2,1011] [2,1011] [2,3,52,53] [54,2,3,52,53] Z (λi T U=>⟨(54,iA i)::T,(3,.box [.sl false (c.js.map wE),.sl false (c.ags.map vB),iA c.per,iA c.cap,iA c.hold,iA c.lock,bA false,iA 0,.ref 1011 0 ((NU c c.ags.length).map zI).length,.ref 1012 0 (((c.js.take i).map jT).map wY).length,.ref 1013 0 (((c.js.take i).map RD).map wV).length,.ref 1014 0 ((c.js.take i).map λ_=>iA (-1)).length,.ref 1015 0 (((c.js.take i).map λj=>LJ j (jT j) (RD j)).map vQ).length])::(1012,.arr 5 (((c.js.take i).map jT).map wY) true)::(1013,.arr 3 (((c.js.take i).map RD).map wV) true)::(1014,.arr 1 ((c.js.take i).map λ_=>iA (-1)) true)::(1015,.arr 4 (((c.js.take i).map λj=>LJ j (jT j) (RD j)).map vQ) true)::U⟩) ?_;(conv=>whnf);refine⟨by rfl,?_,?_⟩
  ·intro i hi;have hi':i<c.js.length:=by omega
   have hy:=zM wE c.js i hi';have J:=h.jv _ (zS c.js i hi')
   have et:c.js.take (i+1)=c.js.take i++[c.js.getD i default]:=by
    rw[yBl,yBu hi',yDi,yFq hi']
   have hlt:(c.js.take i).length<=4:=by rw[yB4];omega
   have k1:=zJ0 _ J;have k2:=zU4 (c.js.getD i default).ph.length KD;have k3:=zI0 _ J (jT (c.js.getD i default)) (zJs J) (RD (c.js.getD i default));have hpl:((c.js.getD i default).ph.map wT).length=(c.js.getD i default).ph.length:=yBe ..;rw[et];simp only[yBn,yCh,yD2];have m1:(((c.js.take i).map jT).map wY).length=(c.js.take i).length:=by simp
   have m2:(((c.js.take i).map RD).map wV).length=(c.js.take i).length:=by simp
   have m3:((c.js.take i).map λ_=>iA (-1)).length=(c.js.take i).length:=by simp
   have m4:(((c.js.take i).map λj=>LJ j (jT j) (RD j)).map vQ).length=(c.js.take i).length:=by simp
   rw[show zPg (c.js.getD i default).ph.length=RD (c.js.getD i default)from Z,<-hpl]at k2;clear et hfin kp;generalize LJ (c.js.getD i default) (jT (c.js.getD i default)) (RD (c.js.getD i default))=w at *;generalize jT (c.js.getD i default)=s at *;generalize RD (c.js.getD i default)=v at *;generalize c.js.getD i default=j at *;generalize ((c.js.take i).map jT).map wY=X1 at *;generalize ((c.js.take i).map RD).map wV=X2 at *;generalize (c.js.take i).map (λ_=>iA (-1))=X3 at *;generalize ((c.js.take i).map λj=>LJ j (jT j) (RD j)).map vQ=X4 at *;unfold wE zD wY wV vQ at*
   (have zc1:=k1;have zc2:=k2;have zc3:=k3;(repeat' (first|refine bW ?_|((first|apply xE|apply xV)<;>intro hc)|(refine zE ?_;first|(refine yR ?_;refine qH tok Z Z ?_))|refine SB ?_|fail))<;>clear zc1 zc2 zc3)
   rfl
  ·rw[hjl,yBj];refine WW ?_;refine zH [] Z Z ?_ Z
   show AV.agg [.sl false (c.js.map wE),.sl false (c.ags.map vB),iA c.per,iA c.cap,iA c.hold,iA c.lock,bA false,iA 0,.sl false (List.take ((NU c c.ags.length).map zI).length (List.drop 0 ((NU c c.ags.length).map zI))),.sl false (List.take ((c.js.map jT).map wY).length (List.drop 0 ((c.js.map jT).map wY))),.sl false (List.take ((c.js.map RD).map wV).length (List.drop 0 ((c.js.map RD).map wV))),.sl false (List.take (c.js.map λ_=>iA (-1)).length (List.drop 0 (c.js.map λ_=>iA (-1)))),.sl false (List.take ((c.js.map λj=>LJ j (jT j) (RD j)).map vQ).length (List.drop 0 ((c.js.map λj=>LJ j (jT j) (RD j)).map vQ)))]=_
   rw[yCg,yBj,yCg,yBj,yCg,yBj,yCg,yBj,yCg,yBj,show(c.js.map λ_=>iA (-1))=(c.js.map λ_=>(-1:Int)).map iA by rw[yGh];rfl]
def zU2 (j:Int) (x:Lg):zO 161 [xS x,.ptr 5 0 0] [(5,.box [iA j])] (bA (x.jn==j)) [(5,.box [iA j])]:=by
 refine eM call161 λF hF=>?_
 refine WW ?_;exact zK [5] Z Z Z Z
def zU3 (j:Int) (l:List Lg) (hb:l.length<=1000):zO 160 [zD xS l,.fn 161 [.ptr 5 0 0]] [(5,.box [iA j])] (iA (XE (λr:Lg=>r.jn==j) l)) [(5,.box [iA j])]:=by
 have hl:=zA xS l;refine eM call160 λF hF=>?_
 refine WW ?_;refine kF (l) [5] [5] [0,1,7] [8,0,1,7] Z (λi pre T U zs=>(∀y∈pre,(y.jn==j)=false)/\zs=⟨(8,iA i)::T,U⟩) ?_;(conv=>whnf);refine⟨?_,?_,?_⟩
 ·exact⟨by simp,rfl⟩
 ·rintro i pre x post st hx hi ⟨hp,rfl⟩;have hy:=xL xS hx hi;have hlt:=yQ hx hi;have c:=zU2 j x;have hit:=VF (p:=λr:Lg=>r.jn==j) hx hp
  cases he:(x.jn==j)<;>rw[he]at c
  ·clear hx hit;refine zW c ?_;exact⟨λy hy=>by simp only[yBy,yCf]at hy;rcases hy with hy|rfl;exact hp y hy;exact he,rfl⟩
  ·rw[hit he,hi];clear hx hit;refine zW c ?_;exact zK [5] Z Z Z Z
 ·rintro st ⟨hp,rfl⟩;rw[aW hp];refine WW ?_;exact zK [5] rfl rfl rfl rfl
def MC (ag j:Int) (x:Rq):List Cl:=if XE (λr:Lg=>r.jn==j) x.legs<0 then []else if(x.legs.getD (XE (λr:Lg=>r.jn==j) x.legs).toNat default).sc= -1 then []else [⟨ag,x.id,(x.legs.getD (XE (λr:Lg=>r.jn==j) x.legs).toNat default).ph,x.cls,(x.legs.getD (XE (λr:Lg=>r.jn==j) x.legs).toNat default).sc⟩]
def fI (ag j:Int) (l:List Rq):List Cl:=(l.map (MC ag j)).flatten
def zI6 (ag j:Int) (x:Rq):(MC ag j x).length<=1:=by
 unfold MC;split
 ·exact yBt _
 ·split
  ·exact yBt _
  ·exact yBg _
def zFa (ag j:Int) (l:List Rq) (x:Rq):fI ag j (l++[x])=fI ag j l++MC ag j x:=by simp[fI]
theorem eO (ag j:Int):∀l:List Rq,(fI ag j l).length<=l.length
 | []=>yBg _
 |x::l=>by
  have h1:=zI6 ag j x;have h2:=eO ag j l;have e:fI ag j (x::l)=MC ag j x++fI ag j l:=rfl;rw[e,yBf,yBp];omega
def LL (l:List Rq) (ag j:Int) (hn:l.length<=1000) (hb:∀r∈l,r.legs.length<=1000):zO 121 [zD yI l,iA ag,iA j] [] (zD fM (fI ag j l)) []:=by
 have hl:=zA yI l;refine eM call121 λF hF=>?_
 refine WW ?_;refine xC 7 1001 5 Z Z Z ?_;refine yO (l) [1001,5] [5] [1,5,12,13] [7,14,1,5,12,13] Z (λi pre T U=>⟨(7,.ref 1001 0 ((fI ag j pre).map fM).length)::(14,iA i)::T,(1001,.arr 5 ((fI ag j pre).map fM) true)::U⟩) ?_;(conv=>whnf);refine⟨by rfl,?_,?_⟩
 ·intro i pre x post hx hi;have hy:=xL yI hx hi;have hlt:=yQ hx hi;have kx:=zU3 j x.legs (hb x (wZ hx));have hq:=eO ag j pre;have hql:((fI ag j pre).map fM).length=(fI ag j pre).length:=yBe ..;have hpl:pre.length<=l.length:=by rw[hx];simp
  have hxl:(x.legs.map xS).length=x.legs.length:=yBe ..;rw[zFa,yBn]
  have hlo: -1<=XE (λr:Lg=>r.jn==j) x.legs/\(0<=XE (λr:Lg=>r.jn==j) x.legs->XE (λr:Lg=>r.jn==j) x.legs<x.legs.length):=by
   cases ha:x.legs.any (λr:Lg=>r.jn==j)with
   |true=>have:=IU ha;omega
   |false=>rw[XE,ha,yBc yBw];omega
  unfold MC;clear hx;generalize (fI ag j pre).map fM=X at *;by_cases h0:XE (λr:Lg=>r.jn==j) x.legs<0
  ·rw[yBd h0,yD2,yCd];generalize XE (λr:Lg=>r.jn==j) x.legs=at1 at *;refine zW kx ?_;rfl
  ·rw[yBc h0];have hyg:=yL xS x.legs (XE (λr:Lg=>r.jn==j) x.legs) zB zB;generalize XE (λr:Lg=>r.jn==j) x.legs=at1 at *;generalize x.legs.getD at1.toNat default=g at *;by_cases h1:g.sc= -1
   ·rw[yBd h1,yD2,yCd];refine zW kx ?_;rfl
   ·rw[yBc h1];refine zW kx ?_;rfl
 ·(refine WW ?_)
  exact zH [] Z Z (yB8 (AV.sl false) yBj) Z
def vU (j:Int) (l:List xH):List Cl:=(l.map λd=>fI d.rg.num j d.rq).flatten
def US (j:Int) (l:List xH) (d:xH):vU j (l++[d])=vU j l++fI d.rg.num j d.rq:=by simp[vU]
theorem WQ (j:Int):∀l:List xH,(∀d∈l,d.rq.length<=1000)->(vU j l).length<=1000*l.length
 | [],_=>yBg _
 |d::l,h=>by
  have h1:=eO d.rg.num j d.rq;have h2:=WQ j l (λx hx=>h x MT);have h3:=h d zQ;have e:vU j (d::l)=fI d.rg.num j d.rq++vU j l:=rfl;rw[e,yBf,yBp];omega
def zFb (c:Cf) (rf:Bool) (now:Int) (ds:List xH) (j:Int) (hd:ds.length<=1000) (hb:∀d∈ds,fY d) (A B C D:List AV) (a b e f:Nat):
  zO 86 [aI c rf now (zD zI ds) (.ref 1012 0 a) (.ref 1013 0 b) (.ref 1014 0 e) (.ref 1015 0 f),iA j] [(1012,.arr 5 A false),(1013,.arr 3 B false),(1014,.arr 1 C false),(1015,.arr 4 D false)] (zD fM (vU j ds)) [(1012,.arr 5 A false),(1013,.arr 3 B false),(1014,.arr 1 C false),(1015,.arr 4 D false)]:=by
 have hl:=zA zI ds;unfold aI;refine eM call86 λF hF=>?_
 refine WW ?_;refine xC 5 1001 5 Z Z Z ?_;refine yO (ds) [1001,1012,1013,1014,1015] [1012,1013,1014,1015] [1,9,10] [5,11,1,9,10] Z (λi pre T U=>⟨(5,.ref 1001 0 ((vU j pre).map fM).length)::(11,iA i)::T,(1001,.arr 5 ((vU j pre).map fM) true)::U⟩) ?_;(conv=>whnf);refine⟨by rfl,?_,?_⟩
 ·intro i pre x post hx hi;have hy:=xL zI hx hi;have hlt:=yQ hx hi;have hbx:=hb x (wZ hx);have kx:=LL x.rq x.rg.num j hbx.q hbx.g;have hq:=WQ j pre (λd hd=>(hb d (by rw[hx];simp[hd])).q);have hql:((vU j pre).map fM).length=(vU j pre).length:=yBe ..;have hq2:=eO x.rg.num j x.rq;have hq3:((fI x.rg.num j x.rq).map fM).length=(fI x.rg.num j x.rq).length:=yBe ..;have hpl:pre.length<=ds.length:=by rw[hx];simp
  have hxq:=hbx.q;rw[US,yBn];clear hx;generalize (vU j pre).map fM=X at *;unfold zD at kx;generalize fI x.rg.num j x.rq=Y at *;unfold zI wF at hy;refine zW kx ?_;rfl
 ·(refine WW ?_)
  exact zH [1012,1013,1014,1015] Z Z (yB8 (AV.sl false) yBj) Z
def EX (a:Ag) (h:1<=a.ses/\a.ses<=2):zO 192 [vB a] [] (iA a.ses) []:=by
 refine eM call192 λF hF=>?_
 refine WW ?_;refine zH [] Z Z (yB8 iA ?_) Z;omega
def plA (a k s:Nat):AV:= .agg [iA a,iA k,iA s]
def zFc (c:Cf) (a:Nat):List (Nat×xM):=[(1103,.box [iA a]),(1104,.box [zD wE c.js,zD vB c.ags,iA c.per,iA c.cap,iA c.hold,iA c.lock])]
def JN (c:Cf) (a:Nat):List (List AV):=(List.range (c.ags.getD a default).ses.toNat).map λk=>[plA a k ((jP c.ags a).toNat+k)]
def zC9 (c:Cf) (a:Nat):zO 156 [wN c,iA a] [] (.fn 191 [.ptr 1104 0 0,.ptr 1103 0 0]) (zFc c a):=by
 unfold wN zFc;refine eM call156 λF hF=>?_
 repeat' (first|(refine zE ?_;first|refine qA (jE (v:=AV.agg _) 1104 Z Z) Z Z Z ?_|refine qA (jE (v:=AV.s _) 1103 Z Z) Z Z Z ?_|refine vV tok Z Z ?_|refine qR ?_)|(first|refine xT ?_|refine xI ?_|refine vJ Z ?_|refine zZ Z ?_|refine zV Z ?_|refine xQ Z (λhc=>?_) λhc=>?_|refine xD ?_|refine yZ ?_|refine xJ ?_|refine yX ?_))
 exact zK [1103,1104] Z Z Z Z
def zI7 (c:Cf) (h:FD c.ags) (a:Nat) (ha:a<c.ags.length):ZW prog 191 [.ptr 1104 0 0,.ptr 1103 0 0] (zFc c a) (JN c a):=by
 have hl:=zA vB c.ags;have hn:=h.1;have hs:=h.at ha;refine bI func191 Z (λargs w=>call191 args w) Z Z Z (λF y hro hit hY=>?_);unfold zFc;have htl:((c.ags.take (a:Int).toNat).map vB).length=a:=by rw[yBe,yB4];omega
 have hts:∀i,i<=a->jP (c.ags.take a) i=jP c.ags i:=λi=>by
  induction i with
  |zero=>intro _;rfl
  |succ i ih=>
   intro hi;unfold jP;rw[ih zB,yBl,yC6,yBd zB,<-yBl]
 refine WW ?_;refine zN (a) [1103,1104] [1103,1104] [0,1,2,11,12] [4,13,1000000,0,1,2,11,12] Z (λi T U=>⟨(4,iA (jP c.ags i))::(13,iA i)::(1000000,.gh 0)::T,U⟩) ?_;(conv=>whnf);refine⟨by rfl,?_,?_⟩
 ·intro i hi
  have hy:((c.ags.take (a:Int).toNat).map vB)[i]? =some (vB (c.ags.getD i default)):=by
   show((c.ags.take a).map vB)[i]? =_
   rw[yBh,yC6,yBd hi,yBl,yBu zB];rfl
  have h2:=h.at (i:=i) zB;have hb:=jG h i zB;have kc:=EX (c.ags.getD i default) h2;rw[show jP c.ags (i+1)=jP c.ags i+(c.ags.getD i default).ses from Z];clear hts hs hY;generalize jP c.ags i=z at *;generalize c.ags.getD i default=g at *;refine zW kc ?_;rfl
 ·have hy:=zM vB c.ags a ha;have kc:=EX (c.ags.getD a default) hs;have hb:=jG h a zB;obtain⟨bs,hbs⟩:∃bs:Nat,jP c.ags a=(bs:Int):=⟨(jP c.ags a).toNat,zB⟩;obtain⟨N,hN⟩:∃N:Nat,(c.ags.getD a default).ses=(N:Int):=⟨(c.ags.getD a default).ses.toNat,zB⟩;have hL:JN c a=(List.range N).map λk=>[plA a k (bs+k)]:=by unfold JN;rw[hbs,hN];rfl
  rw[hbs]at hb⊢;rw[hN]at kc hs;rw[hL]at hY⊢;clear hL hN hts;generalize c.ags.getD a default=g at *;refine zW kc ?_;refine zN (N) [1103,1104] [1103,1104] [0,2,4,27] [28,1000000,0,2,4,27] Z (λi T U=>⟨(28,iA i)::(1000000,.gh i)::T,U⟩) ?_;(conv=>whnf);refine⟨by rfl,?_,?_⟩
  ·intro k hk
   have hys:((List.range N).map λk=>[plA a k (bs+k)])[k]? =some [plA a k (bs+k)]:=by
    rw[yBh,yCe hk];rfl
   have hlen:k<((List.range N).map λk=>[plA a k (bs+k)]).length:=by simp;exact hk
   rw[show plA a k (bs+k)= .agg [iA (a:Int),iA (k:Int),iA ((bs:Int)+k)]from by unfold plA;rw[show((bs+k:Nat):Int)=(bs:Int)+k by omega]]at hys;generalize ((List.range N).map λk=>[plA a k (bs+k)])=xs at*
   (repeat' (first|refine uC ?_|((first|apply xE|apply xV)<;>intro hc)|(refine zE ?_;refine wA ?_;first|(refine BV ?_;refine QM hit hY Z Z hys Z Z Z ?_ ?_))|(refine zE ?_;first|refine SM ?_)|fail))
   ·rfl
   ·exact cO Z (.inr zB)
  ·(refine WW ?_)
   exact ZD Z (.inl zQ)
end Av
end Go.Proofs.YteajjdidebfcjaaGreat
