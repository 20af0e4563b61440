/- Part 26. -/
import Derived.Test.YteajjdidebfcjaaGreatR25
namespace Go.Proofs.YteajjdidebfcjaaGreat
namespace Av
open Tryz
set_option linter.all false
set_option maxRecDepth 4000
set_option maxHeartbeats 4000000
def zOb (j:Jn) (h:j.ph.length<=8):zN 111 [wJ j] [] (.agg [bA true,bA false,.ref 1021 0 (j.ph.map wS).length,.ref 1022 0 (j.ph.map wS).length]) [(1021,.arr 1 (List.replicate (j.ph.map wS).length (iA 0)) false),(1022,.arr 1 (List.replicate (j.ph.map wS).length (iA 0)) false)]:=by
 have hl:=zA wS j.ph;unfold wJ zD;generalize j.ph.map wS=P at *;refine eM call111 λF hF=>?_
 (repeat' (first|refine uL ?_|((first|apply xM|apply wA)<;>intro hc)|(refine zE ?_;first|(refine gB ?_;first|refine fZ 1021 tok Z Z Z Z Z Z Z Z Z Z Z Z Z zB zB Z Z Z ?_|refine fZ 1022 tok Z Z Z Z Z Z Z Z Z Z Z Z Z zB zB Z Z Z ?_))|fail))
 exact zL [1021,1022] Z Z Z Z
def cnT (p:Ph) (l:Li):Int:=if l.lamp=1 then max (UL p-1-l.tk) 0 else if l.lamp=2 then p.yel-1-l.tk else if l.lamp=3 then p.red-1-l.tk else 0
def coT (l:Li):Int:=if l.lamp=1∨l.lamp=2 then l.lamp else 0
def zH6 (p:Ph) (h:PhB p) (l:Li) (ht: -1000000000000<=l.tk/\l.tk<=1000000000000) (hn: -1000<=UL p/\UL p<=1000) (hy: -1000<=p.yel/\p.yel<=1000) (hr: -1000<=p.red/\p.red<=1000):zN 146 [wS p,vE l] [] (iA (cnT p l)) []:=by
 have c:=JP p h;unfold cnT;generalize UL p=n at *;by_cases h1:l.lamp=1
 ·rw[zZ8 h1];refine eM call146 λF hF=>?_
  refine zV c ?_;exact zJ
 rw[zZ7 h1];by_cases h2:l.lamp=2
 ·rw[zZ8 h2];refine eM call146 λF hF=>?_
  refine WW ?_;exact zJ
 rw[zZ7 h2];by_cases h3:l.lamp=3
 ·rw[zZ8 h3];refine eM call146 λF hF=>?_
  refine WW ?_;exact zJ
 ·rw[zZ7 h3];refine eM call146 λF hF=>?_
  refine WW ?_;exact zJ
def QL (s:Sg) (n i:Nat):List Int:=bB (λp _=>coT (xJ s.c p)) (List.replicate n 0) i
def FQ (j:Jn) (s:Sg) (n i:Nat):List Int:=bB (λp _=>cnT (yM j p) (xJ s.c p)) (List.replicate n 0) i
def MS (j:Jn) (s:Sg) (v:Sv):Vw:=if s.lat=true then vwZ j.ph.length else⟨false,v.ph != -1,QL s j.ph.length j.ph.length,FQ j s j.ph.length j.ph.length⟩
def zZj (n:Nat):List.replicate n (iA 0)=(List.replicate n (0:Int)).map iA:=by simp
theorem zH7 (j:Jn) (J:JV j) (s:Sg) (C:CV j s.c) (v:Sv):zN 114 [wJ j,wX s,wU v] [] (vO (MS j s v)) []:=by
 have k:=zOb j J.n.2;have hl:=zA wS j.ph;have hn:=J.n;have hll:(s.c.li.map vE).length=j.ph.length:=by rw[zZ9];exact C.n
 unfold MS;rw[zZj]at k;unfold wX wU
 cases hlat:s.lat with
 |true=>
  rw[zZ8 Z];unfold wJ at *;refine eM call114 λF hF=>?_
  refine zV k ?_;refine zK [] Z Z ?_ Z
  show AV.agg [bA true,bA false,.sl false (List.take (j.ph.map wS).length ((List.replicate (j.ph.map wS).length (0:Int)).map iA)),.sl false (List.take (j.ph.map wS).length ((List.replicate (j.ph.map wS).length (0:Int)).map iA))]=_
  rw[yAj zU,hl];rfl
 | false=>
  rw[zZ7 yAs];have e1:(List.replicate (j.ph.map wS).length (0:Int)).map iA=(QL s j.ph.length 0).map iA:=by unfold QL;rw[qR,hl]
  have e2:(List.replicate (j.ph.map wS).length (0:Int)).map iA=(FQ j s j.ph.length 0).map iA:=by unfold FQ;rw[qR,hl]
  have k:zN 111 [wJ j] [] (.agg [bA true,bA false,.ref 1021 0 (j.ph.map wS).length,.ref 1022 0 (j.ph.map wS).length]) [(1021,.arr 1 ((QL s j.ph.length 0).map iA) false),(1022,.arr 1 ((FQ j s j.ph.length 0).map iA) false)]:=by rw[<-e1,<-e2];exact k
  clear e1 e2;have f1:∀i,((QL s j.ph.length i).map iA).length=j.ph.length:=λi=>by rw[zZ9];unfold QL;rw[wP,yB0]
  have f2:∀i,((FQ j s j.ph.length i).map iA).length=j.ph.length:=λi=>by rw[zZ9];unfold FQ;rw[wP,yB0]
  have g1:∀i,i<j.ph.length->(QL s j.ph.length (i+1)).map iA=((QL s j.ph.length i).map iA).set i (iA (coT (xJ s.c i))):=λi hi=>by unfold QL;rw[uR _ _ _ _ zL2]
  have g2:∀i,i<j.ph.length->(FQ j s j.ph.length (i+1)).map iA=((FQ j s j.ph.length i).map iA).set i (iA (cnT (yM j i) (xJ s.c i))):=λi hi=>by unfold FQ;rw[uR _ _ _ _ zL2]
  unfold wJ zD at *;refine eM call114 λF hF=>?_
  refine zV k ?_;refine zO ((j.ph.map wS).length) [1021,1022,4,6,7] [4,6,7] [4,6,7,22,23] [24,4,6,7,22,23] Z (λi T U=>⟨(24,iA i)::T,(1021,.arr 1 ((QL s j.ph.length i).map iA) false)::(1022,.arr 1 ((FQ j s j.ph.length i).map iA) false)::U⟩) ?_;(conv=>whnf);refine⟨by rfl,?_,?_⟩
  ·intro i hi;have hi':i<j.ph.length:=by omega
   have hy:(j.ph.map wS)[i]? =some (wS (yM j i)):=zM wS j.ph i hi';have hz:(s.c.li.map vE)[i]? =some (vE (xJ s.c i)):=zM vE s.c.li i (by have:=C.n;omega);have ht:=J.ti i hi';have hv:=C.k i hi';have x1:=f1 i;have x2:=f2 i;have y1:=g1 i hi';have y2:=g2 i hi'
   have htk: -1000000000000<=(xJ s.c i).tk/\(xJ s.c i).tk<=1000000000000:=by
    unfold UM at hv
    repeat' split at hv
    all_goals (first|(rw[yAc]at hv;omega)|cases hv)
   have kc:=zH6 (yM j i) ⟨zB,zB,zB,zB⟩ (xJ s.c i) htk (by unfold UL;omega) zB zB;rw[y1,y2];have a1:((QL s j.ph.length i).map iA)[i]? =some (iA ((QL s j.ph.length i).getD i default)):=zM iA _ i (by rw[zZ9]at x1;omega);have a2:(((QL s j.ph.length i).map iA).set i (iA 0))[i]? =some (iA 0):=by rw[yB8,zZ8 Z,zZ8 zB]
   have a3:((FQ j s j.ph.length i).map iA)[i]? =some (iA ((FQ j s j.ph.length i).getD i default)):=zM iA _ i (by rw[zZ9]at x2;omega);clear y1 y2 g1 g2 f1 f2 k;generalize (QL s j.ph.length i).getD i default=v1 at *;generalize (FQ j s j.ph.length i).getD i default=v2 at *;generalize cnT (yM j i) (xJ s.c i)=cc at *;generalize (QL s j.ph.length i).map iA=A at *;generalize (FQ j s j.ph.length i).map iA=B at *;generalize yM j i=p at *;unfold coT;generalize xJ s.c i=l at *;obtain⟨lm,tk⟩:=l;dsimp only at *;by_cases h1:lm=1
   ·rw[zZ8 (.inl h1),<-yEe (a:=iA 0)];refine zV kc ?_;rfl
   by_cases h2:lm=2
   ·rw[zZ8 (.inr h2),<-yEe (a:=iA 0)];refine zV kc ?_;rfl
   ·rw[zZ7 (λh=>h.elim h1 h2)];refine zV kc ?_;rfl
  ·(refine WW ?_)
   refine zK [] Z Z ?_ Z
   show AV.agg [bA false,bA (v.ph != -1),.sl false (List.take (j.ph.map wS).length ((QL s j.ph.length (j.ph.map wS).length).map iA)),.sl false (List.take (j.ph.map wS).length ((FQ j s j.ph.length (j.ph.map wS).length).map iA))]=_
   rw[yAj (by rw[f1];omega),yAj (by rw[f2];omega),hl];rfl
def zR9 (j:Jn) (J:JV j) (s:Sg) (v:Sv):VwB (MS j s v):=by
 have hn:=J.n.2;unfold MS;split
 ·exact zXy hn
 ·refine⟨by show(QL _ _ _).length<=8;unfold QL;rw[wP,yB0];exact hn,by show(FQ _ _ _ _).length<=8;unfold FQ;rw[wP,yB0];exact hn,λx hx=>?_⟩;obtain⟨i,hi,rfl⟩:=yCh hx;have h1:=vQ (λp (_:Int)=>coT (xJ s.c p)) (List.replicate j.ph.length 0) j.ph.length i;unfold QL at hi⊢;rw[yAn hi]at h1;rw[wP]at hi;rw[zZ8 hi]at h1
  injection h1 with h1
  rw[h1];split
  ·unfold coT;split<;>omega
  ·rename_i hni;rw[yB0]at hi;omega
def QM (k:IntKind) (n:Int):Int:=k.wrap (BitVec.ofInt k.bits (if k.signed=true then -1 else k.max) ^^^ BitVec.ofInt k.bits n).toNat
def RD {P:Program} {st:St} {tx:Nat} {x:Operand} {k:IntKind} {n:Int} (hx:yJ (zG st.tm) x= .s (.int k n)):wM P st (.unOp .xor tx x) (.s (.int k (QM k n))) [] [] []:=
 yK λo X tm h w β a ho hg _ _ Ht=>by
  obtain⟨dst,op',type,pos,after,guard⟩:=o;dsimp only at ho;subst ho;have h1:=vF Ht hg (x:=x) vY hx;exact⟨.int k (QM k n),by simp[execOp,h1,Op.unary,Op.intBits,QM],.fz _ _ (.s _)⟩
def uA (n:Int):AV:= .s (.int .u32 n)
def NK (a b:Int):Int:=IntKind.u32.wrap (BitVec.ofInt IntKind.u32.bits a ^^^ BitVec.ofInt IntKind.u32.bits b).toNat
def zOc (a b:Int):Int:=IntKind.u32.wrap (BitVec.ofInt IntKind.u32.bits a &&& BitVec.ofInt IntKind.u32.bits b).toNat
def orU (a b:Int):Int:=IntKind.u32.wrap (BitVec.ofInt IntKind.u32.bits a ||| BitVec.ofInt IntKind.u32.bits b).toNat
def zXk (a:Int) (n:Nat):Int:=a.fdiv (2 ^ (min n IntKind.u32.bits))
def crS (r:Int):Int:=if zOc r 1=1 then NK (zXk r 1) 3988292384 else zXk r 1
def crN (r:Int):Nat->Int
 |0=>r
 |i+1=>crS (crN r i)
def crB (r x:Int):Int:=crN (NK r x) 8
def crF (r:Int) (l:List Int):Int:=l.foldl crB r
def bN (l:List Int):Int:=QM .u32 (crF (QM .u32 0) l)
def FR (r:Int) (l:List Int) (x:Int):crF r (l++[x])=crB (crF r l) x:=by simp[crF]
section
variable {P:Program} {tm:List (Nat×AV)} {h:List (Nat×xN)} {tx ty:Nat} {x y:Operand} {m n:Int}
def XU (hx:yJ (zG tm) x= .s (.int .u32 m)) (hy:yJ (zG tm) y= .s (.int .u32 n)):wM P ⟨tm,h⟩ (.binOp .and tx x y ty) (.s (.int .u32 (zOc m n))) [] [] []:=RU hx hy
def zOd (hx:yJ (zG tm) x= .s (.int .u32 m)) (hy:yJ (zG tm) y= .s (.int .u32 n)):wM P ⟨tm,h⟩ (.binOp .or tx x y ty) (.s (.int .u32 (orU m n))) [] [] []:=HB hx hy
end
def zTs (r:Int) (l:List Int) (hl:l.length<=1000000) (hb:BY l):zN 182 [uA r,zD yA l] [] (uA (QM .u32 (crF (QM .u32 r) l))) []:=by
 have hll:=zA yA l;refine eM call182 λF hF=>?_
 (repeat' (first|refine uL ?_|((first|apply xM|apply wA)<;>intro hc)|(refine zE ?_;first|(refine DM ?_;refine wG (RD Z) Z ?_))|fail))
 generalize QM .u32 r=r0 at *;refine yL (l) [] [] [11,12] [5,13,11,12] Z (λi pre T U=>⟨(5,uA (crF r0 pre))::(13,iA i)::T,U⟩) ?_;(conv=>whnf);refine⟨by rfl,?_,?_⟩
 ·intro i pre x post hx hi;have hy:=xI yA hx hi;have hlt:=yN hx hi;have hbx:=hb x (wR hx);rw[FR];clear hx;generalize crF r0 pre=q at *;refine WW ?_;refine zO (8) [] [] [11,12,13] [5,21,11,12,13] Z (λi T U=>⟨(5,uA (crN (NK q x) i))::(21,iA i)::T,U⟩) ?_;(conv=>whnf);refine⟨by rfl,?_,?_⟩
  ·intro k hk;have e:crN (NK q x) (k+1)=crS (crN (NK q x) k):=rfl;rw[e];generalize crN (NK q x) k=z at *;unfold crS;by_cases hz:zOc z 1=1
   ·rw[zZ8 hz]
    (repeat' (first|refine uL ?_|((first|apply xM|apply wA)<;>intro hc)|(refine zE ?_;first|(refine wL ?_;refine wG (XU Z Z) Z ?_))|fail))
    rfl
   ·rw[zZ7 hz]
    (repeat' (first|refine uL ?_|((first|apply xM|apply wA)<;>intro hc)|(refine zE ?_;first|(refine wL ?_;refine wG (XU Z Z) Z ?_))|fail))
    rfl
  ·(refine WW ?_)
   rfl
 ·(repeat' (first|refine uL ?_|((first|apply xM|apply wA)<;>intro hc)|(refine zE ?_;first|(refine DM ?_;refine wG (RD Z) Z ?_))|fail))
  exact zJ
def zSa (l:List Int) (hl:l.length<=1000000) (hb:BY l):zN 138 [zD yA l] [] (uA (bN l)) []:=by
 have c:=zTs 0 l hl hb;refine eM call138 λF hF=>?_
 refine zV c ?_;exact zJ
def zOe (r:Int) (l:List Int) (hl:l.length<=1000000) (hb:BY l):zN 100 [uA r,zD yA l] [] (uA (QM .u32 (crF (QM .u32 r) l))) []:=by
 have hll:=zA yA l;refine eM call100 λF hF=>?_
 (repeat' (first|refine uL ?_|((first|apply xM|apply wA)<;>intro hc)|(refine zE ?_;first|(refine DM ?_;refine wG (RD Z) Z ?_))|fail))
 generalize QM .u32 r=r0 at *;refine yL (l) [] [] [11,12] [5,13,11,12] Z (λi pre T U=>⟨(5,uA (crF r0 pre))::(13,iA i)::T,U⟩) ?_;(conv=>whnf);refine⟨by rfl,?_,?_⟩
 ·intro i pre x post hx hi;have hy:=xI yA hx hi;have hlt:=yN hx hi;have hbx:=hb x (wR hx);rw[FR];clear hx;generalize crF r0 pre=q at *;refine WW ?_;refine zO (8) [] [] [11,12,13] [5,21,11,12,13] Z (λi T U=>⟨(5,uA (crN (NK q x) i))::(21,iA i)::T,U⟩) ?_;(conv=>whnf);refine⟨by rfl,?_,?_⟩
  ·intro k hk;have e:crN (NK q x) (k+1)=crS (crN (NK q x) k):=rfl;rw[e];generalize crN (NK q x) k=z at *;unfold crS;by_cases hz:zOc z 1=1
   ·rw[zZ8 hz]
    (repeat' (first|refine uL ?_|((first|apply xM|apply wA)<;>intro hc)|(refine zE ?_;first|(refine wL ?_;refine wG (XU Z Z) Z ?_))|fail))
    rfl
   ·rw[zZ7 hz]
    (repeat' (first|refine uL ?_|((first|apply xM|apply wA)<;>intro hc)|(refine zE ?_;first|(refine wL ?_;refine wG (XU Z Z) Z ?_))|fail))
    rfl
  ·(refine WW ?_)
   rfl
 ·(repeat' (first|refine uL ?_|((first|apply xM|apply wA)<;>intro hc)|(refine zE ?_;first|(refine DM ?_;refine wG (RD Z) Z ?_))|fail))
  exact zJ
def zTt (l:List Int) (hl:l.length<=1000000) (hb:BY l):zN 65 [zD yA l] [] (uA (bN l)) []:=by
 have c:=zOe 0 l hl hb;refine eM call65 λF hF=>?_
 refine zV c ?_;exact zJ
def zCi (n:Int) (h0:0<=n) (h1:n<=200):zN 137 [iA n] [] (iA (6+n+4)) []:=by
 refine eM call137 λF hF=>?_
 refine WW ?_;exact zJ
def FS (l:List Int):Int:=l.foldl (λn x=>orU (IntKind.u32.wrap (n*2 ^ (min (8:Int).toNat IntKind.u32.bits))) x) 0
def zH8 (l:List Int) (hl:l.length<=1000000) (hb:BY l):zN 139 [zD yA l] [] (uA (FS l)) []:=by
 have hll:=zA yA l;refine eM call139 λF hF=>?_
 refine WW ?_;refine yL (l) [] [] [6,7] [3,8,6,7] Z (λi pre T U=>⟨(3,uA (FS pre))::(8,iA i)::T,U⟩) ?_;(conv=>whnf);refine⟨by rfl,?_,?_⟩
 ·intro i pre x post hx hi;have hy:=xI yA hx hi;have hlt:=yN hx hi;have hbx:=hb x (wR hx);rw[show FS (pre++[x])=orU (IntKind.u32.wrap (FS pre*2 ^ (min (8:Int).toNat IntKind.u32.bits))) x by simp[FS]];clear hx;generalize FS pre=q at*
  (repeat' (first|refine uL ?_|((first|apply xM|apply wA)<;>intro hc)|(refine zE ?_;first|(refine wL ?_;refine wG (zOd Z Z) Z ?_))|fail))
  rfl
 ·(refine WW ?_)
  exact zJ
def be4 (s:Int):List Int:=(List.range 4).map λi:Nat=>IntKind.u8.wrap (s.fdiv (2 ^ (min (8*(3-(i:Int))).toNat IntKind.u32.bits)))
def bF (k:Int) (n:Nat):List Int:=[1,k,0,(n:Int)]
def frF (k:Int) (p:List Int):List Int:=90::165::(bF k p.length++p)++be4 (bN (bF k p.length++p))
def zZk (n:Nat) (z a b c d e f:AV) (ys:List AV) (hy:ys.length=n):((((((List.replicate (n+10) z).set 0 a).set 1 b).set 2 c).set 3 d).set 4 e).set 5 f=a::b::c::d::e::f::List.replicate (n+4) z:=by
 rw[show n+10=n+4+1+1+1+1+1+1 by omega];simp[yDy]
def zH9 (A B:List Int) (z:Int) (i:Nat) (hi:i<B.length):(A++B.take i++List.replicate (B.length-i) z).set (A.length+i) (B.getD i default)=A++B.take (i+1)++List.replicate (B.length-(i+1)) z:=by
 have h1:(A++B.take i).length=A.length+i:=by rw[yAd,yA3];omega
 rw[show B.length-i=B.length-(i+1)+1 by omega,yDy,yC4 _ _ zB,h1,yB9,yEn,yAg,yAn hi,yEg hi];simp only[yA7,yCu,yCo,yCd]
def zOf (s:Int):(be4 s).length=4:=rfl
section
variable {P:Program} {TT:List TI} {K0:List Nat} {F:Fr K0} {m:Nat} {ops:Array Oper} {rest:List Oper} {Q:List FP->St->Prop} {tm:List (Nat×AV)} {h:List (Nat×xN)} {dr:Bool} {fs:List FP} {ty:Nat} {pos:String} {after:Array Edge} {t:Nat}
def zIa (hP:uI P TT) {T e key len sz:Nat} {x l r:Operand} {ti te:TI} {xs:List AV} {sl:Fl} {k1 k2:IntKind} {i j:Int} (hx:yJ (zG tm) x= .ref key 0 len) (hk:zC h key=some (.arr sz xs sl)) (hl:yJ (zG tm) l= .s (.int k1 i)) (hr:yJ (zG tm) r= .s (.int k2 j)) (hT:TT[T]? =some ti) (hd:ti.d= .slice e) (he:TT[e]? =some te)
  (hsz:Nat.beq sz te.size=true) (a b:Nat) (ha:i=a) (hb:j=b) (h0:a<=b) (h1:b<=len) (hm:Nat.blt t m=true) (hq:zX P F m ops dr rest ⟨(t,.ref key a (b-a))::tm,h⟩ (⟨true,[],[key]⟩::fs) Q):
  zX P F m ops dr (⟨some t,.slice T x (some l) (some r) none,ty,pos,after,none⟩::rest) ⟨tm,h⟩ fs Q:=by
 have:=dG (P:=P) (st:=⟨tm,h⟩) (lo:=some l) (hi:=some r) (l:=a) (r:=b) hP hx hk hT hd he ⟨k1,i,hl,zB⟩ ⟨k2,j,hr,zB⟩ h0 h1 hsz;rw[yBu]at this;exact wG this hm hq
end
def fr6 (k:Int) (p:List Int):List AV:=((((((List.replicate (p.length+10) (yA 0)).set 0 (yA 90)).set 1 (yA 165)).set 2 (yA 1)).set 3 (yA k)).set 4 (.s (.int .u8 (IntKind.u8.wrap (uM (((p.map yA).length:Nat):Int) 8))))).set 5 (.s (.int .u8 (((p.map yA).length:Nat):Int)))
def fr7 (k:Int) (p:List Int):List AV:=(fr6 k p).take 6++p.map yA++(fr6 k p).drop (6+(p.map yA).length)
def FT (k:Int) (p:List Int) (i:Nat):List Int:=(90::165::(bF k p.length++p))++(be4 (bN (bF k p.length++p))).take i++List.replicate (4-i) 0
def zTu (k:Int) (p:List Int) (hp:p.length<=200):fr7 k p=(FT k p 0).map yA:=by
 have h1:IntKind.u8.wrap (uM (((p.map yA).length:Nat):Int) 8)=0:=by
  have:uM (((p.map yA).length:Nat):Int) 8=0:=by
   unfold uM;rw[zZ9,yDn _ xG]
   show(p.length:Int)/256=0
   omega
  rw[this];rfl
 have h2:fr6 k p=yA 90::yA 165::yA 1::yA k::yA 0::yA p.length::List.replicate (p.length+4) (yA 0):=by
  unfold fr6;rw[h1,zZ9];exact zZk p.length (yA 0) _ _ _ _ _ _ (p.map yA) (zZ9 ..)
 unfold fr7 FT bF;rw[h2,zZ9];simp only[yE3,yC8,yCu,yCo,yBb,yAi,yBc,yFa,yFc,yA7];rw[show 6+p.length=p.length+1+1+1+1+1+1 by omega];simp only[yDi,List.drop_replicate];rw[show p.length+4-p.length=4 by omega]
def zSb {k:Int} {p:List Int} (k0:0<=k) (k1:k<=255) (hb:BY p) (hp:p.length<=200):BY (bF k p.length++p):=by
 intro x hx
 rcases yAw.1 hx with hx|hx
 ·unfold bF at hx;simp only[yBd,yDo,yEy]at hx;omega
 ·exact hb x hx
theorem zTv (k:Int) (p:List Int) (k0:0<=k) (k1:k<=255) (hb:BY p) (hp:p.length<=200):zN 135 [iA k,zD yA p] [] (.tup [zD yA (frF k p),iA 0]) []:=by
 have hlp:=zA yA p;have kz:=zCi ((p.map yA).length) zB zB;have hh:∀y,(p.map yA)[0]? =some y->y.cells.length=1:=xO _ _ (λ_=>rfl);have hnn:6+((p.map yA).length:Int)+4=((p.length+10:Nat):Int):=by omega
 rw[hnn]at kz;have hX:=zTu k p hp;have hdb:=zSb k0 k1 hb hp
 have kc:zN 138 [.sl false (((fr7 k p).drop 2).take (6+p.length-2))] [] (uA (bN (bF k p.length++p))) []:=by
  rw[hX,<-yEz,<-yE0]
  have e:((FT k p 0).drop 2).take (6+p.length-2)=bF k p.length++p:=by
   unfold FT;rw[yC8,yBc,yCu,yCu,yDi,yDi,yA9];exact List.take_left' (by unfold bF;simp;omega)
  rw[e];exact zSa _ (by unfold bF;simp;omega) hdb
 unfold fr7 fr6 at kc hX;unfold frF;have hbl:=zOf (bN (bF k p.length++p))
 have hfl:∀i,i<4->(FT k p (i+1)).map yA=((FT k p i).map yA).set (p.length+6+i) (yA ((be4 (bN (bF k p.length++p))).getD i default)):=λi hi=>by
  have h1:=zH9 (90::165::(bF k p.length++p)) (be4 (bN (bF k p.length++p))) 0 i (by rw[hbl];exact hi);rw[hbl,show(90::165::(bF k p.length++p)).length+i=p.length+6+i by simp[bF]<;>omega]at h1;unfold FT;rw[<-h1,yB4]
 refine eM call135 λF hF=>?_
 (have zc1:=kz;have zc2:=kc;(repeat' (first|refine uL ?_|((first|apply xM|apply wA)<;>intro hc)|(refine zE ?_;first|refine SM ?_|(refine fB ?_;first|refine cU tok Z Z Z Z Z Z Z zB zB Z ?_|refine zIa tok Z Z Z Z Z Z Z Z 2 (6+p.length) Z zB zB zB Z ?_)|(refine uS (OJ tok Z Z Z Z Z Z Z hh Z (by show _<=p.length+4;omega)) Z Z Z ?_))|fail))<;>clear zc1 zc2)
 refine zO (4) [23] [] [6,7,8] [52,6,7,8] Z (λi T U=>⟨(52,iA i)::T,(23,.arr 1 ((FT k p i).map yA) false)::U⟩) ?_;(conv=>whnf);refine⟨by(rw[<-hX];rfl),?_,?_⟩
 ·intro i hi;have e:=hfl i hi
  have hbe:(be4 (bN (bF k p.length++p))).getD i default=IntKind.u8.wrap ((bN (bF k p.length++p)).fdiv (2 ^ (min (8*(3-(i:Int))).toNat IntKind.u32.bits))):=by
   unfold be4;rw[yAg,yAa,yA4 hi];rfl
  rw[hbe,show p.length+6+i=(6+(p.length:Int)+i).toNat by omega]at e;rw[e];clear hfl hX kc e hbe
  have hlen:((FT k p i).map yA).length=p.length+10:=by
   unfold FT;simp[bF,be4];omega
  have hy:((FT k p i).map yA)[(6+(p.length:Int)+i).toNat]? =some (yA ((FT k p i).getD (6+(p.length:Int)+i).toNat default)):=zM yA _ _ (by rw[zZ9]at hlen;omega);generalize (FT k p i).getD (6+(p.length:Int)+i).toNat default=y0 at *;rw[<-hlp]at hy⊢;generalize bN (bF k p.length++p)=s at *;generalize (FT k p i).map yA=X at *;refine WW ?_;rfl
 ·(refine WW ?_)
  refine zK [] Z Z ?_ Z
  show AV.tup [.sl false (List.take (p.length+10) ((FT k p 4).map yA)),iA 0]=_
  have e:FT k p 4=90::165::(bF k p.length++p)++be4 (bN (bF k p.length++p)):=by
   unfold FT;rw[yAj (by rw[hbl];omega),yB9,yFq,yBc]
  rw[e,yAj (by rw[zZ9];simp[bF,be4]<;>omega)];rfl
def zTw (y:Int):0<=IntKind.u8.wrap y/\IntKind.u8.wrap y<256:=by
 unfold IntKind.wrap;simp[IntKind.signed,IntKind.bits];omega
theorem zOg (k:Int) (p:List Int) (k0:0<=k) (k1:k<=255) (hb:BY p) (hp:p.length<=200):∃q,BY q/\q.length=p.length+10/\zN 29 [iA k,zD yA p] [] (.tup [.ref 1031 0 (q.map yA).length,iA 0]) [(1031,.arr 1 (q.map yA) true)]:=by
 have hlp:=zA yA p;have hh:∀y,(p.map yA)[0]? =some y->y.cells.length=1:=xO _ _ (λ_=>rfl)
 have hu:IntKind.u8.wrap (uM (((p.map yA).length:Nat):Int) 8)=0:=by
  have:uM (((p.map yA).length:Nat):Int) 8=0:=by
   unfold uM;rw[zZ9,yDn _ xG]
   show(p.length:Int)/256=0
   omega
  rw[this];rfl
 have hdb:=zSb k0 k1 hb hp;have kc:=zTt (bF k p.length++p) (by unfold bF;simp;omega) hdb
 have kc:zN 65 [.sl false ((([AV.s (.int .u8 90),.s (.int .u8 165),.s (.int .u8 1),.s (.int .u8 k),.s (.int .u8 (IntKind.u8.wrap (uM (((p.map yA).length:Nat):Int) 8))),.s (.int .u8 (((p.map yA).length:Nat):Int))]++p.map yA).drop 2).take (([AV.s (.int .u8 90),.s (.int .u8 165),.s (.int .u8 1),.s (.int .u8 k),.s (.int .u8 (IntKind.u8.wrap (uM (((p.map yA).length:Nat):Int) 8))),.s (.int .u8 (((p.map yA).length:Nat):Int))]++p.map yA).length-2))] [] (uA (bN (bF k p.length++p))) []:=by
  rw[hu,zZ9];rw[yAj zU];exact kc
 generalize bN (bF k p.length++p)=s at *;refine⟨90::165::(bF k p.length++p)++[IntKind.u8.wrap (s.fdiv (2 ^ (min (24:Int).toNat IntKind.u32.bits))),IntKind.u8.wrap (s.fdiv (2 ^ (min (16:Int).toNat IntKind.u32.bits))),IntKind.u8.wrap (s.fdiv (2 ^ (min (8:Int).toNat IntKind.u32.bits))),IntKind.u8.wrap s],?_,?_,?_⟩
 ·intro x hx
  rcases yAw.1 hx with hx|hx
  ·simp only[yBd]at hx
   rcases hx with rfl|rfl|hx
   ·omega
   ·omega
   ·exact hdb x hx
  ·simp only[yBd,yDo,yEy]at hx
   rcases hx with rfl|rfl|rfl|rfl<;>exact zTw _
 ·simp[bF]
 have hX:(90::165::(bF k p.length++p)++[IntKind.u8.wrap (s.fdiv (2 ^ (min (24:Int).toNat IntKind.u32.bits))),IntKind.u8.wrap (s.fdiv (2 ^ (min (16:Int).toNat IntKind.u32.bits))),IntKind.u8.wrap (s.fdiv (2 ^ (min (8:Int).toNat IntKind.u32.bits))),IntKind.u8.wrap s]).map yA=([AV.s (.int .u8 90),.s (.int .u8 165),.s (.int .u8 1),.s (.int .u8 k),.s (.int .u8 (IntKind.u8.wrap (uM (((p.map yA).length:Nat):Int) 8))),.s (.int .u8 (((p.map yA).length:Nat):Int))]++p.map yA)++[.s (.int .u8 (IntKind.u8.wrap (s.fdiv (2 ^ (min (24:Int).toNat IntKind.u32.bits))))),.s (.int .u8 (IntKind.u8.wrap (s.fdiv (2 ^ (min (16:Int).toNat IntKind.u32.bits))))),.s (.int .u8 (IntKind.u8.wrap (s.fdiv (2 ^ (min (8:Int).toNat IntKind.u32.bits))))),.s (.int .u8 (IntKind.u8.wrap s))]:=by
  rw[hu,zZ9];simp only[bF,yAi,yBb,yCz,yCu,yCo,yA7];rfl
 rw[hX];refine eM call29 λF hF=>?_
 (have zc1:=kc;(repeat' (first|refine RP ?_|((first|apply xM|apply wA)<;>intro hc)|(refine zE ?_;first|(refine xB ?_;first|refine uS (nw:=[1031]) (yH tok 1031 (xs:=[_,_,_,_,_,_]) Z Z Z Z Z Z Z Z Z) Z Z Z ?_|refine gO tok Z Z ?_)|(refine fB ?_;refine cU tok Z Z Z Z Z Z Z zB (by simp<;>omega) Z ?_))|refine SB ?_|fail))<;>clear zc1)
 exact zL [1031] Z Z Z Z
def zIb (m:Ms) (h:MgP m):∃q,BY q/\q.length<=210/\zN 28 [yB m] [] (.tup [.ref 1031 0 (q.map yA).length,iA 0]) [(1031,.arr 1 (q.map yA) true)]:=by
 obtain⟨p,h1,h2,c1⟩:=zUz m h;have hk:=h.k;obtain⟨q,q1,q2,c2⟩:=zOg m.kind p zB zB h1 h2;refine⟨q,q1,zB,?_⟩;unfold yB at *;refine eM call28 λF hF=>?_
 refine yR (vH c1 c2) ?_;exact zL [1031] Z Z Z Z
def zIc (m:Ms) (h:MgP m):∃q,BY q/\q.length<=210/\zN 13 [yB m] [] (.ref 1031 0 (q.map yA).length) [(1031,.arr 1 (q.map yA) true)]/\zN 13 [yB m] [] (zD yA q) []:=by
 obtain⟨q,q1,q2,c2⟩:=zIb m h;refine⟨q,q1,q2,?_,?_⟩
 ·unfold yB at *;refine eM call13 λF hF=>?_
  refine zV c2 ?_;exact zL [1031] Z Z Z Z
 ·unfold yB at *;refine eM call13 λF hF=>?_
  refine zV c2 ?_;exact zK [] Z Z (yA6 (AV.sl false) yAf) Z
def zId (m:Ms) (h:MgP m):∃q,BY q/\q.length<=210/\zN 13 [yB m] [] (zD yA q) []:=by
 obtain⟨q,q1,q2,_,c2⟩:=zIc m h;exact⟨q,q1,q2,c2⟩
def qE (l:List Ag):Nat->Int
 |0=>0
 |i+1=>qE l i+(l.getD i default).ses
def AgW (l:List Ag):Prop:=l.length<=4/\∀a∈l,1<=a.ses/\a.ses<=2
theorem AgW.at {l:List Ag} (h:AgW l) {i:Nat} (hi:i<l.length):1<=(l.getD i default).ses/\(l.getD i default).ses<=2:=by
 refine h.2 _ ?_;rw[yAg,yAn hi];exact yCv _
theorem kY {l:List Ag} (h:AgW l):∀i,i<=l.length->(i:Int)<=qE l i/\qE l i<=2*i
 |0,_=>⟨yB6 _,yB6 _⟩
 |i+1,hi=>by
  have h1:=kY h i zB;have h2:=h.at (i:=i) zB;unfold qE;omega
structure FU (e:Ev):Prop where
 k:1<=e.k/\e.k<=6
 s:0<=e.s/\e.s<=100
 a:0<=e.a/\e.a<=100
 b:0<=e.b/\e.b<=100
 y:BY e.y
 n:e.y.length<=1000
def evb {k s a b:Int} {y:List Int} (hk:1<=k/\k<=6) (hs:0<=s/\s<=100) (ha:0<=a/\a<=100) (hb:0<=b/\b<=100) (hy:BY y) (hn:y.length<=1000):FU ⟨k,s,a,b,y⟩:=⟨hk,hs,ha,hb,hy,hn⟩
def fP:BY []:=λx hx=>by cases hx
def EvL (l:List Ev) (n:Nat):Prop:=l.length<=n/\∀e∈l,FU e
theorem EvL.nil:EvL [] 0:=⟨yAb _,λe h=>by cases h⟩
theorem EvL.app {l:List Ev} {n:Nat} (h:EvL l n) {e:Ev} (he:FU e):EvL (l++[e]) (n+1):=
 ⟨by have:=h.1;rw[yAd,yC3];omega,λx hx=>(yAw.1 hx).elim (h.2 x) λhx=>by rw[yA8.1 hx];exact he⟩
theorem EvL.le {l:List Ev} {n m:Nat} (h:EvL l n) (hm:n<=m):EvL l m:=⟨yBm h.1 hm,h.2⟩
structure VT (c:Cf):Prop where
 j:1<=c.js.length/\c.js.length<=4
 jv:∀j∈c.js,JV j
 a:1<=c.ags.length/\c.ags.length<=4
 av:∀a∈c.ags,AgV a
 p:1<=c.per/\c.per<=600
 cp:0<=c.cap/\c.cap<=100
 h:1<=c.hold/\c.hold<=60
 l:0<=c.lock/\c.lock<=600
def zP {α:Type} [Inhabited α] (l:List α) (i:Nat) (h:i<l.length):l.getD i default∈l:=by
 rw[yAg,yAn h];exact yCv _
theorem VT.w {c:Cf} (h:VT c):CfW c:=⟨h.j.2,λj hj=>(h.jv j hj).n⟩
theorem VT.ag {c:Cf} (h:VT c):AgW c.ags:=⟨h.a.2,λa ha=>(h.av a ha).e⟩
def zXl (d:Dk) (r:Int) (hr:0<=r/\r<=63):VT (LA d r):=by
 have hn:=zX3 d r;have h1:=xZ d (4-1+1) zB;have h2:=xZ (ad d) 4 zB;have h3:=xZ (ad (ad d)) (3-1+1) zB;have h4:=xZ (ad (ad (ad d))) 5 zB;refine⟨zB,λj hj=>?_,zB,λa ha=>?_,?_,?_,?_,?_⟩
 ·rw[zJt]at hj;obtain⟨e,rfl⟩:=zCx _ _ j hj;exact zUh e
 ·obtain⟨i,hi,rfl⟩:=yCh ha;have:=(zUw d r hr (i:Int) zB zB).1.v;rw[show(i:Int).toNat=i from Z]at this;rw[show(LA d r).ags[i]=(LA d r).ags.getD i default by simp[List.getD,hi]];exact this
 all_goals (unfold LA;dsimp only;omega)
def zEe (c:Cf) (h:VT c):zN 110 [vG c] [] (bA true) []:=by
 have hj:=h.j;have ha:=h.a;have hjl:=zA wJ c.js;have hal:=zA wK c.ags;have w1:=fR ((c.js.map wJ).length:Int) 1 4 zB;have w2:=fR ((c.ags.map wK).length:Int) 1 4 zB;have w3:=fR c.per 1 600 h.p;have w4:=fR c.cap 0 100 h.cp;have w5:=fR c.hold 1 60 h.h;have w6:=fR c.lock 0 600 h.l;unfold vG zD;refine eM call110 λF hF=>?_
 refine yR (vH w1 w2) ?_;refine zO ((c.js.map wJ).length) [1] [1] [1,20,21] [22,1,20,21] Z (λi T U=>⟨(22,iA i)::T,U⟩) ?_;(conv=>whnf);refine⟨by rfl,?_,?_⟩
 ·intro i hi;have hy:=zM wJ c.js i zB;have kj:=TN _ (h.jv _ (zP c.js i zB));generalize c.js.getD i default=j at *;refine zV kj ?_;rfl
 ·(refine WW ?_)
  refine zO ((c.ags.map wK).length) [1] [1] [1,31,32] [33,1,31,32] Z (λi T U=>⟨(33,iA i)::T,U⟩) ?_;(conv=>whnf);refine⟨by rfl,?_,?_⟩
  ·intro i hi;have hy:=zM wK c.ags i zB;have kj:=zEv _ (h.av _ (zP c.ags i zB));generalize c.ags.getD i default=a at *;refine zV kj ?_;rfl
  ·(refine yR (ZK w3 w4 w5 w6) ?_)
   exact zJ
def NA (c:Cf) (i:Nat):List yY:=(List.range i).map λk:Nat=>OS (k:Int) (c.ags.getD k default) (c.ags.getD k default).ses.toNat
def SD (j:Jn):Sv:=zOj j.ph.length
def bO (c:Cf):Cy:=⟨c,false,0,NA c c.ags.length,c.js.map jI,c.js.map SD,c.js.map λ_=> -1,c.js.map λj=>MS j (jI j) (SD j)⟩
theorem zTx (c:Cf) (h:VT c):zN 76 [vG c] [] (uC (bO c)) []:=by
 have kp:=zEe c h;have hj:=h.j;have ha:=h.a;have hjl:=zA wJ c.js;have hal:=zA wK c.ags;have hdl:∀i,((NA c i).map zI).length=i:=λi=>by simp[NA]
 have hfin:uC (bO c)= .agg [zD wJ c.js,zD wK c.ags,iA c.per,iA c.cap,iA c.hold,iA c.lock,bA false,iA 0,zD zI (NA c c.ags.length),zD wX (c.js.map jI),zD wU (c.js.map SD),zD iA (c.js.map λ_=> -1),zD vO (c.js.map λj=>MS j (jI j) (SD j))]:=rfl;rw[hfin];unfold vG zD at *;refine eM call76 λF hF=>?_
 refine zV kp ?_;refine uF 3 8 1011 17 Z Z Z Z Z ?_;refine zO ((c.ags.map wK).length) [3,1011,1,2] [1,2] [1,2,3,35,36] [37,1,2,3,35,36] Z (λi T U=>⟨(37,iA i)::T,(3,.box [.sl false (c.js.map wJ),.sl false (c.ags.map wK),iA c.per,iA c.cap,iA c.hold,iA c.lock,bA false,iA 0,.ref 1011 0 ((NA c i).map zI).length,.s (.slice none 0 0),.s (.slice none 0 0),.s (.slice none 0 0),.s (.slice none 0 0)])::(1011,.arr 17 ((NA c i).map zI) true)::U⟩) ?_;(conv=>whnf);refine⟨by rfl,?_,?_⟩
 ·intro i hi;have hy:=zM wK c.ags i zB;have kd:=(zX6 (i:Int) _ (h.av _ (zP c.ags i zB))).1;have e:(NA c (i+1)).map zI=(NA c i).map zI++[zI (OS (i:Int) (c.ags.getD i default) (c.ags.getD i default).ses.toNat)]:=by unfold NA;rw[yCm,yAi,yAi];rfl
  have hdl:=hdl i;rw[e];clear kp hfin e;generalize OS (i:Int) (c.ags.getD i default) (c.ags.getD i default).ses.toNat=dk at *;generalize c.ags.getD i default=a at *;generalize (NA c i).map zI=X at *;unfold zI wC at*
  (have zc1:=kd;(repeat' (first|refine RP ?_|((first|apply xM|apply wA)<;>intro hc)|(refine zE ?_;first|(refine xB ?_;refine gO tok Z Z ?_))|refine SB ?_|fail))<;>clear zc1)
  rfl
 ·(refine WW ?_)
  refine uF 3 9 1012 5 Z Z Z Z Z ?_;refine uF 3 10 1013 3 Z Z Z Z Z ?_;refine uF 3 11 1014 1 Z Z Z Z Z ?_;refine uF 3 12 1015 4 Z Z Z Z Z ?_;rw[hal];refine zO ((c.js.map wJ).length) [3,1012,1013,1014,1015,2,1011] [2,1011] [2,3,52,53] [54,2,3,52,53] Z (λi T U=>⟨(54,iA i)::T,(3,.box [.sl false (c.js.map wJ),.sl false (c.ags.map wK),iA c.per,iA c.cap,iA c.hold,iA c.lock,bA false,iA 0,.ref 1011 0 ((NA c c.ags.length).map zI).length,.ref 1012 0 (((c.js.take i).map jI).map wX).length,.ref 1013 0 (((c.js.take i).map SD).map wU).length,.ref 1014 0 ((c.js.take i).map λ_=>iA (-1)).length,.ref 1015 0 (((c.js.take i).map λj=>MS j (jI j) (SD j)).map vO).length])::(1012,.arr 5 (((c.js.take i).map jI).map wX) true)::(1013,.arr 3 (((c.js.take i).map SD).map wU) true)::(1014,.arr 1 ((c.js.take i).map λ_=>iA (-1)) true)::(1015,.arr 4 (((c.js.take i).map λj=>MS j (jI j) (SD j)).map vO) true)::U⟩) ?_;(conv=>whnf);refine⟨by rfl,?_,?_⟩
  ·intro i hi;have hi':i<c.js.length:=by omega
   have hy:=zM wJ c.js i hi';have J:=h.jv _ (zP c.js i hi')
   have et:c.js.take (i+1)=c.js.take i++[c.js.getD i default]:=by
    rw[yAg,yAn hi',yCd,yEg hi']
   have hlt:(c.js.take i).length<=4:=by rw[yA3];omega
   have k1:=zI8 _ J;have k2:=zT1 (c.js.getD i default).ph.length LM;have k3:=zH7 _ J (jI (c.js.getD i default)) (zI0 J) (SD (c.js.getD i default));have hpl:((c.js.getD i default).ph.map wS).length=(c.js.getD i default).ph.length:=zZ9 ..;rw[et];simp only[yAi,yBb,yCz];have m1:(((c.js.take i).map jI).map wX).length=(c.js.take i).length:=by simp
   have m2:(((c.js.take i).map SD).map wU).length=(c.js.take i).length:=by simp
   have m3:((c.js.take i).map λ_=>iA (-1)).length=(c.js.take i).length:=by simp
   have m4:(((c.js.take i).map λj=>MS j (jI j) (SD j)).map vO).length=(c.js.take i).length:=by simp
   rw[show zOj (c.js.getD i default).ph.length=SD (c.js.getD i default)from Z,<-hpl]at k2;clear et hfin kp;generalize MS (c.js.getD i default) (jI (c.js.getD i default)) (SD (c.js.getD i default))=w at *;generalize jI (c.js.getD i default)=s at *;generalize SD (c.js.getD i default)=v at *;generalize c.js.getD i default=j at *;generalize ((c.js.take i).map jI).map wX=X1 at *;generalize ((c.js.take i).map SD).map wU=X2 at *;generalize (c.js.take i).map (λ_=>iA (-1))=X3 at *;generalize ((c.js.take i).map λj=>MS j (jI j) (SD j)).map vO=X4 at *;unfold wJ zD wX wU vO at*
   (have zc1:=k1;have zc2:=k2;have zc3:=k3;(repeat' (first|refine RP ?_|((first|apply xM|apply wA)<;>intro hc)|(refine zE ?_;first|(refine xB ?_;refine gO tok Z Z ?_))|refine SB ?_|fail))<;>clear zc1 zc2 zc3)
   rfl
  ·rw[hjl,yAf];refine WW ?_;refine zK [] Z Z ?_ Z
   show AV.agg [.sl false (c.js.map wJ),.sl false (c.ags.map wK),iA c.per,iA c.cap,iA c.hold,iA c.lock,bA false,iA 0,.sl false (List.take ((NA c c.ags.length).map zI).length (List.drop 0 ((NA c c.ags.length).map zI))),.sl false (List.take ((c.js.map jI).map wX).length (List.drop 0 ((c.js.map jI).map wX))),.sl false (List.take ((c.js.map SD).map wU).length (List.drop 0 ((c.js.map SD).map wU))),.sl false (List.take (c.js.map λ_=>iA (-1)).length (List.drop 0 (c.js.map λ_=>iA (-1)))),.sl false (List.take ((c.js.map λj=>MS j (jI j) (SD j)).map vO).length (List.drop 0 ((c.js.map λj=>MS j (jI j) (SD j)).map vO)))]=_
   rw[yA9,yAf,yA9,yAf,yA9,yAf,yA9,yAf,yA9,yAf,show(c.js.map λ_=>iA (-1))=(c.js.map λ_=>(-1:Int)).map iA by rw[yE9];rfl]
def zTy (j:Int) (x:Lg):zN 161 [xP x,.ptr 5 0 0] [(5,.box [iA j])] (bA (x.jn==j)) [(5,.box [iA j])]:=by
 refine eM call161 λF hF=>?_
 refine WW ?_;exact zL [5] Z Z Z Z
def zTz (j:Int) (l:List Lg) (hb:l.length<=1000):zN 160 [zD xP l,.fn 161 [.ptr 5 0 0]] [(5,.box [iA j])] (iA (YS (λr:Lg=>r.jn==j) l)) [(5,.box [iA j])]:=by
 have hl:=zA xP l;refine eM call160 λF hF=>?_
 refine WW ?_;refine qW (l) [5] [5] [0,1,7] [8,0,1,7] Z (λi pre T U zs=>(∀y∈pre,(y.jn==j)=false)/\zs=⟨(8,iA i)::T,U⟩) ?_;(conv=>whnf);refine⟨?_,?_,?_⟩
 ·exact⟨by simp,rfl⟩
 ·rintro i pre x post st hx hi ⟨hp,rfl⟩;have hy:=xI xP hx hi;have hlt:=yN hx hi;have c:=zTy j x;have hit:=WF (p:=λr:Lg=>r.jn==j) hx hp
  cases he:(x.jn==j)<;>rw[he]at c
  ·clear hx hit;refine zV c ?_;exact⟨λy hy=>by simp only[yAw,yA8]at hy;rcases hy with hy|rfl;exact hp y hy;exact he,rfl⟩
  ·rw[hit he,hi];clear hx hit;refine zV c ?_;exact zL [5] Z Z Z Z
 ·rintro st ⟨hp,rfl⟩;rw[aD hp];refine WW ?_;exact zL [5] rfl rfl rfl rfl
def NL (ag j:Int) (x:Rq):List Cl:=if YS (λr:Lg=>r.jn==j) x.legs<0 then []else if(x.legs.getD (YS (λr:Lg=>r.jn==j) x.legs).toNat default).sc= -1 then []else [⟨ag,x.id,(x.legs.getD (YS (λr:Lg=>r.jn==j) x.legs).toNat default).ph,x.cls,(x.legs.getD (YS (λr:Lg=>r.jn==j) x.legs).toNat default).sc⟩]
def gR (ag j:Int) (l:List Rq):List Cl:=(l.map (NL ag j)).flatten
def zIe (ag j:Int) (x:Rq):(NL ag j x).length<=1:=by
 unfold NL;split
 ·exact yAp _
 ·split
  ·exact yAp _
  ·exact yAb _
def zEf (ag j:Int) (l:List Rq) (x:Rq):gR ag j (l++[x])=gR ag j l++NL ag j x:=by simp[gR]
theorem fQ (ag j:Int):∀l:List Rq,(gR ag j l).length<=l.length
 | []=>yAb _
 |x::l=>by
  have h1:=zIe ag j x;have h2:=fQ ag j l;have e:gR ag j (x::l)=NL ag j x++gR ag j l:=rfl;rw[e,yAd,yAl];omega
def MT (l:List Rq) (ag j:Int) (hn:l.length<=1000) (hb:∀r∈l,r.legs.length<=1000):zN 121 [zD yG l,iA ag,iA j] [] (zD gW (gR ag j l)) []:=by
 have hl:=zA yG l;refine eM call121 λF hF=>?_
 refine WW ?_;refine yZ 7 1001 5 Z Z Z ?_;refine yL (l) [1001,5] [5] [1,5,12,13] [7,14,1,5,12,13] Z (λi pre T U=>⟨(7,.ref 1001 0 ((gR ag j pre).map gW).length)::(14,iA i)::T,(1001,.arr 5 ((gR ag j pre).map gW) true)::U⟩) ?_;(conv=>whnf);refine⟨by rfl,?_,?_⟩
 ·intro i pre x post hx hi;have hy:=xI yG hx hi;have hlt:=yN hx hi;have kx:=zTz j x.legs (hb x (wR hx));have hq:=fQ ag j pre;have hql:((gR ag j pre).map gW).length=(gR ag j pre).length:=zZ9 ..;have hpl:pre.length<=l.length:=by rw[hx];simp
  have hxl:(x.legs.map xP).length=x.legs.length:=zZ9 ..;rw[zEf,yAi]
  have hlo: -1<=YS (λr:Lg=>r.jn==j) x.legs/\(0<=YS (λr:Lg=>r.jn==j) x.legs->YS (λr:Lg=>r.jn==j) x.legs<x.legs.length):=by
   cases ha:x.legs.any (λr:Lg=>r.jn==j)with
   |true=>have:=II ha;omega
   |false=>rw[YS,ha,zZ7 yAs];omega
  unfold NL;clear hx;generalize (gR ag j pre).map gW=X at *;by_cases h0:YS (λr:Lg=>r.jn==j) x.legs<0
  ·rw[zZ8 h0,yCz,yBc];generalize YS (λr:Lg=>r.jn==j) x.legs=at1 at *;refine zV kx ?_;rfl
  ·rw[zZ7 h0];have hyg:=yI xP x.legs (YS (λr:Lg=>r.jn==j) x.legs) zB zB;generalize YS (λr:Lg=>r.jn==j) x.legs=at1 at *;generalize x.legs.getD at1.toNat default=g at *;by_cases h1:g.sc= -1
   ·rw[zZ8 h1,yCz,yBc];refine zV kx ?_;rfl
   ·rw[zZ7 h1];refine zV kx ?_;rfl
 ·(refine WW ?_)
  exact zK [] Z Z (yA6 (AV.sl false) yAf) Z
def vV (j:Int) (l:List yY):List Cl:=(l.map λd=>gR d.rg.num j d.rq).flatten
def UE (j:Int) (l:List yY) (d:yY):vV j (l++[d])=vV j l++gR d.rg.num j d.rq:=by simp[vV]
theorem XV (j:Int):∀l:List yY,(∀d∈l,d.rq.length<=1000)->(vV j l).length<=1000*l.length
 | [],_=>yAb _
 |d::l,h=>by
  have h1:=fQ d.rg.num j d.rq;have h2:=XV j l (λx hx=>h x MD);have h3:=h d zU;have e:vV j (d::l)=gR d.rg.num j d.rq++vV j l:=rfl;rw[e,yAd,yAl];omega
def zEg (c:Cf) (rf:Bool) (now:Int) (ds:List yY) (j:Int) (hd:ds.length<=1000) (hb:∀d∈ds,fI d) (A B C D:List AV) (a b e f:Nat):
  zN 86 [bP c rf now (zD zI ds) (.ref 1012 0 a) (.ref 1013 0 b) (.ref 1014 0 e) (.ref 1015 0 f),iA j] [(1012,.arr 5 A false),(1013,.arr 3 B false),(1014,.arr 1 C false),(1015,.arr 4 D false)] (zD gW (vV j ds)) [(1012,.arr 5 A false),(1013,.arr 3 B false),(1014,.arr 1 C false),(1015,.arr 4 D false)]:=by
 have hl:=zA zI ds;unfold bP;refine eM call86 λF hF=>?_
 refine WW ?_;refine yZ 5 1001 5 Z Z Z ?_;refine yL (ds) [1001,1012,1013,1014,1015] [1012,1013,1014,1015] [1,9,10] [5,11,1,9,10] Z (λi pre T U=>⟨(5,.ref 1001 0 ((vV j pre).map gW).length)::(11,iA i)::T,(1001,.arr 5 ((vV j pre).map gW) true)::U⟩) ?_;(conv=>whnf);refine⟨by rfl,?_,?_⟩
 ·intro i pre x post hx hi;have hy:=xI zI hx hi;have hlt:=yN hx hi;have hbx:=hb x (wR hx);have kx:=MT x.rq x.rg.num j hbx.q hbx.g;have hq:=XV j pre (λd hd=>(hb d (by rw[hx];simp[hd])).q);have hql:((vV j pre).map gW).length=(vV j pre).length:=zZ9 ..;have hq2:=fQ x.rg.num j x.rq;have hq3:((gR x.rg.num j x.rq).map gW).length=(gR x.rg.num j x.rq).length:=zZ9 ..;have hpl:pre.length<=ds.length:=by rw[hx];simp
  have hxq:=hbx.q;rw[UE,yAi];clear hx;generalize (vV j pre).map gW=X at *;unfold zD at kx;generalize gR x.rg.num j x.rq=Y at *;unfold zI wC at hy;refine zV kx ?_;rfl
 ·(refine WW ?_)
  exact zK [1012,1013,1014,1015] Z Z (yA6 (AV.sl false) yAf) Z
def FV (a:Ag) (h:1<=a.ses/\a.ses<=2):zN 192 [wK a] [] (iA a.ses) []:=by
 refine eM call192 λF hF=>?_
 refine WW ?_;refine zK [] Z Z (yA6 iA ?_) Z;omega
def plA (a k s:Nat):AV:= .agg [iA a,iA k,iA s]
def zEh (c:Cf) (a:Nat):List (Nat×xN):=[(1103,.box [iA a]),(1104,.box [zD wJ c.js,zD wK c.ags,iA c.per,iA c.cap,iA c.hold,iA c.lock])]
def KU (c:Cf) (a:Nat):List (List AV):=(List.range (c.ags.getD a default).ses.toNat).map λk=>[plA a k ((qE c.ags a).toNat+k)]
def zCj (c:Cf) (a:Nat):zN 156 [vG c,iA a] [] (.fn 191 [.ptr 1104 0 0,.ptr 1103 0 0]) (zEh c a):=by
 unfold vG zEh;refine eM call156 λF hF=>?_
 repeat' (first|(refine zE ?_;first|refine uS (kW (v:=AV.agg _) 1104 Z Z) Z Z Z ?_|refine uS (kW (v:=AV.s _) 1103 Z Z) Z Z Z ?_|refine vW tok Z Z ?_|refine qJ ?_)|(first|refine xS ?_|refine xD ?_|refine vI Z ?_|refine zY Z ?_|refine zS Z ?_|refine xL Z (λhc=>?_) λhc=>?_|refine xA ?_|refine yT ?_|refine xF ?_|refine yW ?_))
 exact zL [1103,1104] Z Z Z Z
def zIf (c:Cf) (h:AgW c.ags) (a:Nat) (ha:a<c.ags.length):ZE prog 191 [.ptr 1104 0 0,.ptr 1103 0 0] (zEh c a) (KU c a):=by
 have hl:=zA wK c.ags;have hn:=h.1;have hs:=h.at ha;refine cT func191 Z (λargs w=>call191 args w) Z Z Z (λF y hro hit hY=>?_);unfold zEh;have htl:((c.ags.take (a:Int).toNat).map wK).length=a:=by rw[zZ9,yA3];omega
 have hts:∀i,i<=a->qE (c.ags.take a) i=qE c.ags i:=λi=>by
  induction i with
  |zero=>intro _;rfl
  |succ i ih=>
   intro hi;unfold qE;rw[ih zB,yAg,yBz,zZ8 zB,<-yAg]
 refine WW ?_;refine zO (a) [1103,1104] [1103,1104] [0,1,2,11,12] [4,13,1000000,0,1,2,11,12] Z (λi T U=>⟨(4,iA (qE c.ags i))::(13,iA i)::(1000000,.gh 0)::T,U⟩) ?_;(conv=>whnf);refine⟨by rfl,?_,?_⟩
 ·intro i hi
  have hy:((c.ags.take (a:Int).toNat).map wK)[i]? =some (wK (c.ags.getD i default)):=by
   show((c.ags.take a).map wK)[i]? =_
   rw[yAa,yBz,zZ8 hi,yAg,yAn zB];rfl
  have h2:=h.at (i:=i) zB;have hb:=kY h i zB;have kc:=FV (c.ags.getD i default) h2;rw[show qE c.ags (i+1)=qE c.ags i+(c.ags.getD i default).ses from Z];clear hts hs hY;generalize qE c.ags i=z at *;generalize c.ags.getD i default=g at *;refine zV kc ?_;rfl
 ·have hy:=zM wK c.ags a ha;have kc:=FV (c.ags.getD a default) hs;have hb:=kY h a zB;obtain⟨bs,hbs⟩:∃bs:Nat,qE c.ags a=(bs:Int):=⟨(qE c.ags a).toNat,zB⟩;obtain⟨N,hN⟩:∃N:Nat,(c.ags.getD a default).ses=(N:Int):=⟨(c.ags.getD a default).ses.toNat,zB⟩;have hL:KU c a=(List.range N).map λk=>[plA a k (bs+k)]:=by unfold KU;rw[hbs,hN];rfl
  rw[hbs]at hb⊢;rw[hN]at kc hs;rw[hL]at hY⊢;clear hL hN hts;generalize c.ags.getD a default=g at *;refine zV kc ?_;refine zO (N) [1103,1104] [1103,1104] [0,2,4,27] [28,1000000,0,2,4,27] Z (λi T U=>⟨(28,iA i)::(1000000,.gh i)::T,U⟩) ?_;(conv=>whnf);refine⟨by rfl,?_,?_⟩
  ·intro k hk
   have hys:((List.range N).map λk=>[plA a k (bs+k)])[k]? =some [plA a k (bs+k)]:=by
    rw[yAa,yA4 hk];rfl
   have hlen:k<((List.range N).map λk=>[plA a k (bs+k)]).length:=by simp;exact hk
   rw[show plA a k (bs+k)= .agg [iA (a:Int),iA (k:Int),iA ((bs:Int)+k)]from by unfold plA;rw[show((bs+k:Nat):Int)=(bs:Int)+k by omega]]at hys;generalize ((List.range N).map λk=>[plA a k (bs+k)])=xs at*
   (repeat' (first|refine uL ?_|((first|apply xM|apply wA)<;>intro hc)|(refine zE ?_;refine xT ?_;first|(refine CS ?_;refine RV hit hY Z Z hys Z Z Z ?_ ?_))|(refine zE ?_;first|refine SM ?_)|fail))
   ·rfl
   ·exact dV Z (.inr zB)
  ·(refine WW ?_)
   exact aL Z (.inl zU)
def pnF (b:List Int):Nat:=(b.getD 4 0).toNat*256+(b.getD 5 0).toNat
def prF (b:List Int):Option (It×Nat):=
 if b.length=0 then none
 else if b.getD 0 0≠90∨(1<b.length/\b.getD 1 0≠165)then some (⟨2,0,[]⟩,1)
 else if b.length<6 then none
 else if 200<pnF b then some (⟨7,0,[]⟩,1)
 else if b.length<pnF b+10 then none
 else if bN ((b.drop 2).take (pnF b+4))≠FS ((b.drop (pnF b+6)).take 4)then some (⟨4,0,[]⟩,1)
 else if b.getD 2 0≠1 then some (⟨3,0,[]⟩,pnF b+10)
 else if b.getD 3 0<1∨22<b.getD 3 0 then some (⟨5,0,[]⟩,pnF b+10)
 else some (⟨0,b.getD 3 0,(b.drop 6).take (pnF b)⟩,pnF b+10)
def zT0 (o:Option (It×Nat)):AV:=match o with
 |none=> .tup [wZ ⟨0,0,[]⟩,iA 0,bA false]
 |some x=> .tup [wZ x.1,iA x.2,bA true]
def or8 {x y:Int} (hx:0<=x/\x<256) (hy:0<=y/\y<256):orI (IntKind.i64.wrap (x*2 ^ (min (8:Int).toNat IntKind.i64.bits))) y=x*256+y:=by
 have h1:IntKind.i64.wrap (x*2 ^ (min (8:Int).toNat IntKind.i64.bits))=x*256:=by
  rw[show x*2 ^ (min (8:Int).toNat IntKind.i64.bits)=x*256 from Z];exact qP (k:= .i64) ⟨by show -9223372036854775808<=_;omega,by show _<=9223372036854775807;omega⟩
 rw[h1];obtain⟨a,rfl⟩:=yDf hx.1;obtain⟨c,rfl⟩:=yDf hy.1;have h2:=IG (a*256) c zB zB;have h3:=Nat.shiftLeft_add_eq_or_of_lt (show c<2 ^ 8 by omega) a;rw[Nat.shiftLeft_eq]at h3;rw[show((a:Int)*256)=((a*256:Nat):Int) by omega,h2,<-h3];omega
def byI (b:List Int) (hb:BY b) (i:Nat) (hi:i<b.length):(b.map yA)[i]? =some (yA (b.getD i 0))/\0<=b.getD i 0/\b.getD i 0<256:=by
 have e:b.getD i 0=b[i]:=by simp[List.getD,hi]
 refine⟨by rw[yAa,yAn hi,e];rfl,?_⟩;rw[e];exact hb _ (yCv hi)
section
variable (b:List Int) (hb:BY b) (hl:b.length<=1000000)
include hb hl
theorem zOh:zN 102 [zD yA b] [] (zT0 (prF b)) []:=by
 have hlb:=zA yA b;unfold prF;by_cases h0:b.length=0
 ·rw[zZ8 h0];refine eM call102 λF hF=>?_
  refine WW ?_;exact zJ
 rw[zZ7 h0];obtain⟨y0,z0⟩:=byI b hb 0 zB;by_cases h1:b.getD 0 0=90
 case neg=>
  rw[zZ8 (.inl h1)];generalize b.getD 0 0=x0 at *;refine eM call102 λF hF=>?_
  refine WW ?_;exact zJ
 by_cases h2:1<b.length
 case neg=>
  rw[zZ7 (λh=>h.elim (λh=>h h1) (λh=>h2 h.1)),zZ8 zB];rw[h1]at y0;refine eM call102 λF hF=>?_
  refine WW ?_;exact zJ
 obtain⟨y1,z1⟩:=byI b hb 1 h2;by_cases h3:b.getD 1 0=165
 case neg=>
  rw[zZ8 (.inr ⟨h2,h3⟩)];rw[h1]at y0;generalize b.getD 1 0=x1 at *;refine eM call102 λF hF=>?_
  refine WW ?_;exact zJ
 rw[zZ7 (λh=>h.elim (λh=>h h1) (λh=>h.2 h3))];rw[h1]at y0;rw[h3]at y1;clear z0 z1 h1 h3;by_cases h4:b.length<6
 ·rw[zZ8 h4];refine eM call102 λF hF=>?_
  refine WW ?_;exact zJ
 rw[zZ7 h4];obtain⟨y4,z4⟩:=byI b hb 4 zB;obtain⟨y5,z5⟩:=byI b hb 5 zB;have hor:=or8 z4 z5;have hpn:b.getD 4 0*256+b.getD 5 0=(pnF b:Int):=by unfold pnF;omega
 rw[hpn]at hor;generalize b.getD 4 0=x4 at *;generalize b.getD 5 0=x5 at *;generalize hN:pnF b=N at *;by_cases h6:200<N
 ·rw[zZ8 h6];refine eM call102 λF hF=>?_
  refine WW ?_;exact zJ
 rw[zZ7 h6];have kz:=zCi (N:Int) zB zB;by_cases h7:b.length<N+10
 ·rw[zZ8 h7];refine eM call102 λF hF=>?_
  (repeat' (first|refine uL ?_|((first|apply xM|apply wA)<;>intro hc)|(refine zE ?_;first|refine SM ?_)|fail))
  rw[hor];refine zV kz ?_;exact zJ
 rw[zZ7 h7];have bd:∀i k,BY ((b.drop i).take k):=λi k x hx=>hb x (yBs (yCc hx))
 have kc:=zSa ((b.drop 2).take (N+4)) zSs (bd _ _);have kn:=zH8 ((b.drop (N+6)).take 4) zSs (bd _ _)
 have e1:((b.map yA).drop (2:Int).toNat).take ((6+(N:Int)).toNat-(2:Int).toNat)=((b.drop 2).take (N+4)).map yA:=by
  rw[yE0,yEz,show(6+(N:Int)).toNat-(2:Int).toNat=N+4 by omega];rfl
 have e2:((b.map yA).drop (6+(N:Int)).toNat).take ((6+(N:Int)+4).toNat-(6+(N:Int)).toNat)=((b.drop (N+6)).take 4).map yA:=by
  rw[yE0,yEz,show(6+(N:Int)+4).toNat-(6+(N:Int)).toNat=4 by omega,show(6+(N:Int)).toNat=N+6 by omega]
 have e3:((b.map yA).drop (6:Int).toNat).take ((6+(N:Int)).toNat-(6:Int).toNat)=((b.drop 6).take N).map yA:=by
  rw[yE0,yEz,show(6+(N:Int)).toNat-(6:Int).toNat=N by omega];rfl
 have hpl:(((b.drop 6).take N).map yA).length=N:=by rw[zZ9,yA3,yBh];omega
 have hph:∀y,(((b.drop 6).take N).map yA)[0]? =some y->y.cells.length=1:=xO _ _ (λ_=>rfl);generalize (b.drop 2).take (N+4)=B1 at *;generalize (b.drop (N+6)).take 4=B2 at *;generalize (b.drop 6).take N=B3 at *;clear bd;obtain⟨y2,z2⟩:=byI b hb 2 zB;obtain⟨y3,z3⟩:=byI b hb 3 zB;generalize b.getD 2 0=x2 at *;generalize b.getD 3 0=x3 at *;generalize bN B1=u1 at *;generalize FS B2=u2 at *;by_cases h8:u1=u2
 case neg=>
  rw[zZ8 h8];refine eM call102 λF hF=>?_
  (repeat' (first|refine uL ?_|((first|apply xM|apply wA)<;>intro hc)|(refine zE ?_;first|refine SM ?_)|fail))
  rw[hor];refine yR (gK kz kc kn) ?_;exact zJ
 rw[zZ7 (λh=>h h8)];by_cases h9:x2=1
 case neg=>
  rw[zZ8 h9];refine eM call102 λF hF=>?_
  (repeat' (first|refine uL ?_|((first|apply xM|apply wA)<;>intro hc)|(refine zE ?_;first|refine SM ?_)|fail))
  rw[hor];refine yR (gK kz kc kn) ?_;refine zK [] Z Z (yA6 (λz=>AV.tup [.agg [iA 3,iA 0,.sl false []],iA z,bA true]) ?_) Z;omega
 rw[zZ7 (λh=>h h9)];by_cases h10:x3<1∨22<x3
 ·rw[zZ8 h10]
  rcases h10 with h10|h10
  all_goals
   refine eM call102 λF hF=>?_
   (repeat' (first|refine uL ?_|((first|apply xM|apply wA)<;>intro hc)|(refine zE ?_;first|refine SM ?_)|fail))
   rw[hor];refine yR (gK kz kc kn) ?_;refine zK [] Z Z (yA6 (λz=>AV.tup [.agg [iA 5,iA 0,.sl false []],iA z,bA true]) ?_) Z;omega
 ·rw[zZ7 h10];have h11:1<=x3:=by omega
  have h12:x3<=22:=by omega
  refine eM call102 λF hF=>?_
  (repeat' (first|refine uL ?_|((first|apply xM|apply wA)<;>intro hc)|(refine zE ?_;first|refine SM ?_)|fail))
  rw[hor]
  (have zc1:=kz;have zc2:=kc;have zc3:=kn;(repeat' (first|refine uL ?_|((first|apply xM|apply wA)<;>intro hc)|(refine zE ?_;first|refine SM ?_|(refine uS (OJ tok Z Z Z Z Z Z Z hph Z zB) Z Z Z ?_))|fail))<;>clear zc1 zc2 zc3)
  have hsz:6+(N:Int)+4=((N+10:Nat):Int):=by omega
  refine zK [] Z Z ?_ Z
  show AV.tup [.agg [iA 0,iA x3,.sl false (List.take N (List.drop 0 (List.take 0 (List.replicate N (yA 0))++B3.map yA++List.drop (0+(B3.map yA).length) (List.replicate N (yA 0)))))],iA (6+(N:Int)+4),bA true]=_
  rw[hsz,hpl,yA9,yC8,yCo,yEo zU,yBc,yAj zB];rfl
end
end Av
end Go.Proofs.YteajjdidebfcjaaGreat
