/- Part 23. -/
import Derived.Test.YtmamjhmoegjapaaGreatP22
namespace Go.Proofs.YtmamjhmoegjapaaGreat
namespace Av
open Tryz
set_option linter.all false
set_option maxRecDepth 4000
set_option maxHeartbeats 4000000
def uA (n:Int):AV:= .s (.int .u32 n)
def LC (a b:Int):Int:=IntKind.u32.wrap (BitVec.ofInt IntKind.u32.bits a ^^^ BitVec.ofInt IntKind.u32.bits b).toNat
def zQe (a b:Int):Int:=IntKind.u32.wrap (BitVec.ofInt IntKind.u32.bits a &&& BitVec.ofInt IntKind.u32.bits b).toNat
def orU (a b:Int):Int:=IntKind.u32.wrap (BitVec.ofInt IntKind.u32.bits a ||| BitVec.ofInt IntKind.u32.bits b).toNat
def zXi (a:Int) (n:Nat):Int:=a.fdiv (2 ^ (min n IntKind.u32.bits))
def crS (r:Int):Int:=if zQe r 1=1 then LC (zXi r 1) 3988292384 else zXi r 1
def crN (r:Int):Nat->Int
 |0=>r
 |i+1=>crS (crN r i)
def crB (r x:Int):Int:=crN (LC r x) 8
def crF (r:Int) (l:List Int):Int:=l.foldl crB r
def aK (l:List Int):Int:=QW .u32 (crF (QW .u32 0) l)
theorem CX (r:Int) (l:List Int) (x:Int):crF r (l++[x])=crB (crF r l) x:=by simp[crF]
section
variable {P:Program} {tm:List (Nat×AV)} {h:List (Nat×xP)} {tx ty:Nat} {x y:Operand} {m n:Int}
theorem UW (hx:yO (zG tm) x= .s (.int .u32 m)) (hy:yO (zG tm) y= .s (.int .u32 n)):wR P ⟨tm,h⟩ (.binOp .and tx x y ty) (.s (.int .u32 (zQe m n))) [] [] []:=QF hx hy
theorem zQf (hx:yO (zG tm) x= .s (.int .u32 m)) (hy:yO (zG tm) y= .s (.int .u32 n)):wR P ⟨tm,h⟩ (.binOp .or tx x y ty) (.s (.int .u32 (orU m n))) [] [] []:=IH hx hy
end
theorem zVc (r:Int) (l:List Int) (hl:l.length<=1000000) (hb:BY l):zO 171 [uA r,zD yA l] [] (uA (QW .u32 (crF (QW .u32 r) l))) []:=by
 have hll:=zA yA l;refine eM call171 λF hF=>?_
 (repeat' (first|refine qS ?_|refine xR (λhc=>?_) (λhc=>?_)|refine wE (λhc=>?_)|(refine zE ?_;first|(refine VL ?_;refine yF (RW rfl) rfl ?_))|fail))
 generalize QW .u32 r=r0 at *;refine yS (l) [] [] [11,12] [5,13,11,12] rfl (λi pre T U=>⟨(5,uA (crF r0 pre))::(13,iA i)::T,U⟩) ?_;(conv=>whnf);refine⟨by rfl,?_,?_⟩
 ·intro i pre x post hx hi;have hy:=xO yA hx hi;have hlt:=yX hx hi;have hbx:=hb x (wY hx);rw[CX];clear hx;generalize crF r0 pre=q at *;refine WW ?_;refine zP (8) [] [] [11,12,13] [5,21,11,12,13] rfl (λi T U=>⟨(5,uA (crN (LC q x) i))::(21,iA i)::T,U⟩) ?_;(conv=>whnf);refine⟨by rfl,?_,?_⟩
  ·intro k hk;have e:crN (LC q x) (k+1)=crS (crN (LC q x) k):=rfl;rw[e];generalize crN (LC q x) k=z at *;unfold crS;by_cases hz:zQe z 1=1
   ·rw[zYp hz]
    (repeat' (first|refine qS ?_|refine xR (λhc=>?_) (λhc=>?_)|refine wE (λhc=>?_)|(refine zE ?_;first|(refine wS ?_;refine yF (UW rfl rfl) rfl ?_))|fail))
    rfl
   ·rw[zYo hz]
    (repeat' (first|refine qS ?_|refine xR (λhc=>?_) (λhc=>?_)|refine wE (λhc=>?_)|(refine zE ?_;first|(refine wS ?_;refine yF (UW rfl rfl) rfl ?_))|fail))
    rfl
  ·(refine WW ?_)
   rfl
 ·(repeat' (first|refine qS ?_|refine xR (λhc=>?_) (λhc=>?_)|refine wE (λhc=>?_)|(refine zE ?_;first|(refine VL ?_;refine yF (RW rfl) rfl ?_))|fail))
  exact zL
theorem zRn (l:List Int) (hl:l.length<=1000000) (hb:BY l):zO 128 [zD yA l] [] (uA (aK l)) []:=by
 have c:=zVc 0 l hl hb;refine eM call128 λF hF=>?_
 refine zW c ?_;exact zL
theorem zQg (r:Int) (l:List Int) (hl:l.length<=1000000) (hb:BY l):zO 207 [uA r,zD yA l] [] (uA (QW .u32 (crF (QW .u32 r) l))) []:=by
 have hll:=zA yA l;refine eM call207 λF hF=>?_
 (repeat' (first|refine qS ?_|refine xR (λhc=>?_) (λhc=>?_)|refine wE (λhc=>?_)|(refine zE ?_;first|(refine VL ?_;refine yF (RW rfl) rfl ?_))|fail))
 generalize QW .u32 r=r0 at *;refine yS (l) [] [] [11,12] [5,13,11,12] rfl (λi pre T U=>⟨(5,uA (crF r0 pre))::(13,iA i)::T,U⟩) ?_;(conv=>whnf);refine⟨by rfl,?_,?_⟩
 ·intro i pre x post hx hi;have hy:=xO yA hx hi;have hlt:=yX hx hi;have hbx:=hb x (wY hx);rw[CX];clear hx;generalize crF r0 pre=q at *;refine WW ?_;refine zP (8) [] [] [11,12,13] [5,21,11,12,13] rfl (λi T U=>⟨(5,uA (crN (LC q x) i))::(21,iA i)::T,U⟩) ?_;(conv=>whnf);refine⟨by rfl,?_,?_⟩
  ·intro k hk;have e:crN (LC q x) (k+1)=crS (crN (LC q x) k):=rfl;rw[e];generalize crN (LC q x) k=z at *;unfold crS;by_cases hz:zQe z 1=1
   ·rw[zYp hz]
    (repeat' (first|refine qS ?_|refine xR (λhc=>?_) (λhc=>?_)|refine wE (λhc=>?_)|(refine zE ?_;first|(refine wS ?_;refine yF (UW rfl rfl) rfl ?_))|fail))
    rfl
   ·rw[zYo hz]
    (repeat' (first|refine qS ?_|refine xR (λhc=>?_) (λhc=>?_)|refine wE (λhc=>?_)|(refine zE ?_;first|(refine wS ?_;refine yF (UW rfl rfl) rfl ?_))|fail))
    rfl
  ·(refine WW ?_)
   rfl
 ·(repeat' (first|refine qS ?_|refine xR (λhc=>?_) (λhc=>?_)|refine wE (λhc=>?_)|(refine zE ?_;first|(refine VL ?_;refine yF (RW rfl) rfl ?_))|fail))
  exact zL
theorem zVd (l:List Int) (hl:l.length<=1000000) (hb:BY l):zO 183 [zD yA l] [] (uA (aK l)) []:=by
 have c:=zQg 0 l hl hb;refine eM call183 λF hF=>?_
 refine zW c ?_;exact zL
theorem zDl (n:Int) (h0:0<=n) (h1:n<=200):zO 127 [iA n] [] (iA (6+n+4)) []:=by
 refine eM call127 λF hF=>?_
 refine WW ?_;exact zL
def GA (l:List Int):Int:=l.foldl (λn x=>orU (IntKind.u32.wrap (n*2 ^ (min (8:Int).toNat IntKind.u32.bits))) x) 0
theorem zLn (l:List Int) (hl:l.length<=1000000) (hb:BY l):zO 172 [zD yA l] [] (uA (GA l)) []:=by
 have hll:=zA yA l;refine eM call172 λF hF=>?_
 refine WW ?_;refine yS (l) [] [] [6,7] [3,8,6,7] rfl (λi pre T U=>⟨(3,uA (GA pre))::(8,iA i)::T,U⟩) ?_;(conv=>whnf);refine⟨by rfl,?_,?_⟩
 ·intro i pre x post hx hi;have hy:=xO yA hx hi;have hlt:=yX hx hi;have hbx:=hb x (wY hx);rw[show GA (pre++[x])=orU (IntKind.u32.wrap (GA pre*2 ^ (min (8:Int).toNat IntKind.u32.bits))) x by simp[GA]];clear hx;generalize GA pre=q at*
  (repeat' (first|refine qS ?_|refine xR (λhc=>?_) (λhc=>?_)|refine wE (λhc=>?_)|(refine zE ?_;first|(refine wS ?_;refine yF (zQf rfl rfl) rfl ?_))|fail))
  rfl
 ·(refine WW ?_)
  exact zL
def be4 (s:Int):List Int:=(List.range 4).map λi:Nat=>IntKind.u8.wrap (s.fdiv (2 ^ (min (8*(3-(i:Int))).toNat IntKind.u32.bits)))
def aL (k:Int) (n:Nat):List Int:=[1,k,0,(n:Int)]
def frF (k:Int) (p:List Int):List Int:=90::165::(aL k p.length++p)++be4 (aK (aL k p.length++p))
theorem zYl (n:Nat) (z a b c d e f:AV) (ys:List AV) (hy:ys.length=n):((((((List.replicate (n+10) z).set 0 a).set 1 b).set 2 c).set 3 d).set 4 e).set 5 f=a::b::c::d::e::f::List.replicate (n+4) z:=by
 rw[show n+10=n+4+1+1+1+1+1+1 by omega];simp[yCg]
theorem zLo (A B:List Int) (z:Int) (i:Nat) (hi:i<B.length):(A++B.take i++List.replicate (B.length-i) z).set (A.length+i) (B.getD i default)=A++B.take (i+1)++List.replicate (B.length-(i+1)) z:=by
 have h1:(A++B.take i).length=A.length+i:=by rw[zYr,zY5];omega
 rw[show B.length-i=B.length-(i+1)+1 by omega,yCg,yBr _ _ zB,h1,yA0,yC0,zY0,zZd hi,yCu hi];simp only[zZc,yBd,yA9,yA1]
theorem zQh (s:Int):(be4 s).length=4:=rfl
section
variable {P:Program} {TT:List TI} {K0:List Nat} {F:Fr K0} {m:Nat} {ops:Array Oper} {rest:List Oper} {Q:List FP->St->Prop} {tm:List (Nat×AV)} {h:List (Nat×xP)} {dr:Bool} {fs:List FP} {ty:Nat} {pos:String} {after:Array Edge} {t:Nat}
theorem ZS (hP:uN P TT) {T e key len sz:Nat} {x l r:Operand} {ti te:TI} {xs:List AV} {sl:Fl} {k1 k2:IntKind} {i j:Int} (hx:yO (zG tm) x= .ref key 0 len) (hk:zC h key=some (.arr sz xs sl)) (hl:yO (zG tm) l= .s (.int k1 i)) (hr:yO (zG tm) r= .s (.int k2 j)) (hT:TT[T]? =some ti) (hd:ti.d= .slice e) (he:TT[e]? =some te)
  (hsz:Nat.beq sz te.size=true) (a b:Nat) (ha:i=a) (hb:j=b) (h0:a<=b) (h1:b<=len) (hm:Nat.blt t m=true) (hq:zY P F m ops dr rest ⟨(t,.ref key a (b-a))::tm,h⟩ (⟨true,[],[key]⟩::fs) Q):
  zY P F m ops dr (⟨some t,.slice T x (some l) (some r) none,ty,pos,after,none⟩::rest) ⟨tm,h⟩ fs Q:=by
 have:=gX (P:=P) (st:=⟨tm,h⟩) (lo:=some l) (hi:=some r) (l:=a) (r:=b) hP hx hk hT hd he ⟨k1,i,hl,zB⟩ ⟨k2,j,hr,zB⟩ h0 h1 hsz;rw[zZt]at this;exact yF this hm hq
end
def fr6 (k:Int) (p:List Int):List AV:=((((((List.replicate (p.length+10) (yA 0)).set 0 (yA 90)).set 1 (yA 165)).set 2 (yA 1)).set 3 (yA k)).set 4 (.s (.int .u8 (IntKind.u8.wrap (uT (((p.map yA).length:Nat):Int) 8))))).set 5 (.s (.int .u8 (((p.map yA).length:Nat):Int)))
def fr7 (k:Int) (p:List Int):List AV:=(fr6 k p).take 6++p.map yA++(fr6 k p).drop (6+(p.map yA).length)
def CY (k:Int) (p:List Int) (i:Nat):List Int:=(90::165::(aL k p.length++p))++(be4 (aK (aL k p.length++p))).take i++List.replicate (4-i) 0
theorem zVe (k:Int) (p:List Int) (hp:p.length<=200):fr7 k p=(CY k p 0).map yA:=by
 have h1:IntKind.u8.wrap (uT (((p.map yA).length:Nat):Int) 8)=0:=by
  have:uT (((p.map yA).length:Nat):Int) 8=0:=by
   unfold uT;rw[zYq,yB9 _ xN]
   show(p.length:Int)/256=0
   omega
  rw[this];rfl
 have h2:fr6 k p=yA 90::yA 165::yA 1::yA k::yA 0::yA p.length::List.replicate (p.length+4) (yA 0):=by
  unfold fr6;rw[h1,zYq];exact zYl p.length (yA 0) _ _ _ _ _ _ (p.map yA) (zYq ..)
 unfold fr7 CY aL;rw[h2,zYq];simp only[yCw,yBs,yBd,yA9,yAa,zYz,zZo,yCd,yDo,zZc];rw[show 6+p.length=p.length+1+1+1+1+1+1 by omega];simp only[yB6,List.drop_replicate];rw[show p.length+4-p.length=4 by omega]
theorem zRo {k:Int} {p:List Int} (k0:0<=k) (k1:k<=255) (hb:BY p) (hp:p.length<=200):BY (aL k p.length++p):=by
 intro x hx
 rcases zZa.1 hx with hx|hx
 ·unfold aL at hx;simp only[zZ5,yCt,yD5]at hx;omega
 ·exact hb x hx
theorem zVf (k:Int) (p:List Int) (k0:0<=k) (k1:k<=255) (hb:BY p) (hp:p.length<=200):zO 73 [iA k,zD yA p] [] (.tup [zD yA (frF k p),iA 0]) []:=by
 have hlp:=zA yA p;have kz:=zDl ((p.map yA).length) zB zB;have hh:∀y,(p.map yA)[0]? =some y->y.cells.length=1:=yY _ _ (λ_=>rfl);have hnn:6+((p.map yA).length:Int)+4=((p.length+10:Nat):Int):=by omega
 rw[hnn]at kz;have hX:=zVe k p hp;have hdb:=zRo k0 k1 hb hp
 have kc:zO 128 [.sl false (((fr7 k p).drop 2).take (6+p.length-2))] [] (uA (aK (aL k p.length++p))) []:=by
  rw[hX,<-yCa,<-yCb]
  have e:((CY k p 0).drop 2).take (6+p.length-2)=aL k p.length++p:=by
   unfold CY;rw[yBs,zZo,yBd,yBd,yB6,yB6,zZv];exact yDh (by unfold aL;simp;omega)
  rw[e];exact zRn _ (by unfold aL;simp;omega) hdb
 unfold fr7 fr6 at kc hX;unfold frF;have hbl:=zQh (aK (aL k p.length++p))
 have hfl:∀i,i<4->(CY k p (i+1)).map yA=((CY k p i).map yA).set (p.length+6+i) (yA ((be4 (aK (aL k p.length++p))).getD i default)):=λi hi=>by
  have h1:=zLo (90::165::(aL k p.length++p)) (be4 (aK (aL k p.length++p))) 0 i (by rw[hbl];exact hi);rw[hbl,show(90::165::(aL k p.length++p)).length+i=p.length+6+i by simp[aL]<;>omega]at h1;unfold CY;rw[<-h1,yAw]
 refine eM call73 λF hF=>?_
 (have zc1:=kz;have zc2:=kc;(repeat' (first|refine qS ?_|refine xR (λhc=>?_) (λhc=>?_)|refine wE (λhc=>?_)|(refine zE ?_;first|refine SM ?_|(refine qD ?_;first|refine gZ tok rfl rfl rfl rfl rfl rfl rfl zB zB rfl ?_|refine ZS tok rfl rfl rfl rfl rfl rfl rfl rfl 2 (6+p.length) rfl zB zB zB rfl ?_)|(refine uF (OW tok rfl rfl rfl rfl rfl rfl rfl hh rfl (by show _<=p.length+4;omega)) rfl rfl rfl ?_))|fail))<;>clear zc1 zc2)
 refine zP (4) [23] [] [6,7,8] [52,6,7,8] rfl (λi T U=>⟨(52,iA i)::T,(23,.arr 1 ((CY k p i).map yA) false)::U⟩) ?_;(conv=>whnf);refine⟨by(rw[<-hX];rfl),?_,?_⟩
 ·intro i hi;have e:=hfl i hi
  have hbe:(be4 (aK (aL k p.length++p))).getD i default=IntKind.u8.wrap ((aK (aL k p.length++p)).fdiv (2 ^ (min (8*(3-(i:Int))).toNat IntKind.u32.bits))):=by
   unfold be4;rw[zY0,zYt,zZr hi];rfl
  rw[hbe,show p.length+6+i=(6+(p.length:Int)+i).toNat by omega]at e;rw[e];clear hfl hX kc e hbe
  have hlen:((CY k p i).map yA).length=p.length+10:=by
   unfold CY;simp[aL,be4];omega
  have hy:((CY k p i).map yA)[(6+(p.length:Int)+i).toNat]? =some (yA ((CY k p i).getD (6+(p.length:Int)+i).toNat default)):=zN yA _ _ (by rw[zYq]at hlen;omega);generalize (CY k p i).getD (6+(p.length:Int)+i).toNat default=y0 at *;rw[<-hlp]at hy⊢;generalize aK (aL k p.length++p)=s at *;generalize (CY k p i).map yA=X at *;refine WW ?_;rfl
 ·(refine WW ?_)
  refine zI [] rfl rfl ?_ rfl
  show AV.tup [.sl false (List.take (p.length+10) ((CY k p 4).map yA)),iA 0]=_
  have e:CY k p 4=90::165::(aL k p.length++p)++be4 (aK (aL k p.length++p)):=by
   unfold CY;rw[zYy (by rw[hbl];omega),yA0,yDe,zZo]
  rw[e,zYy (by rw[zYq];simp[aL,be4]<;>omega)];rfl
def YW (b:List Int):Nat:=(b.getD 4 0).toNat*256+(b.getD 5 0).toNat
def XE (b:List Int):Option (It×Nat):=
 if b.length=0 then none
 else if b.getD 0 0≠90∨(1<b.length/\b.getD 1 0≠165)then some (⟨2,0,[]⟩,1)
 else if b.length<6 then none
 else if 200<YW b then some (⟨7,0,[]⟩,1)
 else if b.length<YW b+10 then none
 else if aK ((b.drop 2).take (YW b+4))≠GA ((b.drop (YW b+6)).take 4)then some (⟨4,0,[]⟩,1)
 else if b.getD 2 0≠1 then some (⟨3,0,[]⟩,YW b+10)
 else if b.getD 3 0<1∨22<b.getD 3 0 then some (⟨5,0,[]⟩,YW b+10)
 else some (⟨0,b.getD 3 0,(b.drop 6).take (YW b)⟩,YW b+10)
def zLp (o:Option (It×Nat)):AV:=match o with
 |none=> .tup [vB ⟨0,0,[]⟩,iA 0,bA false]
 |some x=> .tup [vB x.1,iA x.2,bA true]
theorem or8 {x y:Int} (hx:0<=x/\x<256) (hy:0<=y/\y<256):orI (IntKind.i64.wrap (x*2 ^ (min (8:Int).toNat IntKind.i64.bits))) y=x*256+y:=by
 have h1:IntKind.i64.wrap (x*2 ^ (min (8:Int).toNat IntKind.i64.bits))=x*256:=by
  rw[show x*2 ^ (min (8:Int).toNat IntKind.i64.bits)=x*256 from rfl];exact kL (k:= .i64) ⟨by show -9223372036854775808<=_;omega,by show _<=9223372036854775807;omega⟩
 rw[h1];obtain⟨a,rfl⟩:=yB1 hx.1;obtain⟨c,rfl⟩:=yB1 hy.1;have h2:=JM (a*256) c zB zB;have h3:=Nat.shiftLeft_add_eq_or_of_lt (show c<2 ^ 8 by omega) a;rw[Nat.shiftLeft_eq]at h3;rw[show((a:Int)*256)=((a*256:Nat):Int) by omega,h2,<-h3];omega
theorem byI (b:List Int) (hb:BY b) (i:Nat) (hi:i<b.length):(b.map yA)[i]? =some (yA (b.getD i 0))/\0<=b.getD i 0/\b.getD i 0<256:=by
 have e:b.getD i 0=b[i]:=by simp[List.getD,hi]
 refine⟨by rw[zYt,zZd hi,e];rfl,?_⟩;rw[e];exact hb _ (yBm hi)
section
variable (b:List Int) (hb:BY b) (hl:b.length<=1000000)
include hb hl
theorem zDm:zO 134 [zD yA b] [] (zLp (XE b)) []:=by
 have hlb:=zA yA b;unfold XE;by_cases h0:b.length=0
 ·rw[zYp h0];refine eM call134 λF hF=>?_
  refine WW ?_;exact zL
 rw[zYo h0];obtain⟨y0,z0⟩:=byI b hb 0 zB;by_cases h1:b.getD 0 0=90
 case neg=>
  rw[zYp (.inl h1)];generalize b.getD 0 0=x0 at *;refine eM call134 λF hF=>?_
  refine WW ?_;exact zL
 by_cases h2:1<b.length
 case neg=>
  rw[zYo (λh=>h.elim (λh=>h h1) (λh=>h2 h.1)),zYp zB];rw[h1]at y0;refine eM call134 λF hF=>?_
  refine WW ?_;exact zL
 obtain⟨y1,z1⟩:=byI b hb 1 h2;by_cases h3:b.getD 1 0=165
 case neg=>
  rw[zYp (.inr ⟨h2,h3⟩)];rw[h1]at y0;generalize b.getD 1 0=x1 at *;refine eM call134 λF hF=>?_
  refine WW ?_;exact zL
 rw[zYo (λh=>h.elim (λh=>h h1) (λh=>h.2 h3))];rw[h1]at y0;rw[h3]at y1;clear z0 z1 h1 h3;by_cases h4:b.length<6
 ·rw[zYp h4];refine eM call134 λF hF=>?_
  refine WW ?_;exact zL
 rw[zYo h4];obtain⟨y4,z4⟩:=byI b hb 4 zB;obtain⟨y5,z5⟩:=byI b hb 5 zB;have hor:=or8 z4 z5;have hpn:b.getD 4 0*256+b.getD 5 0=(YW b:Int):=by unfold YW;omega
 rw[hpn]at hor;generalize b.getD 4 0=x4 at *;generalize b.getD 5 0=x5 at *;generalize hN:YW b=N at *;by_cases h6:200<N
 ·rw[zYp h6];refine eM call134 λF hF=>?_
  refine WW ?_;exact zL
 rw[zYo h6];have kz:=zDl (N:Int) zB zB;by_cases h7:b.length<N+10
 ·rw[zYp h7];refine eM call134 λF hF=>?_
  (repeat' (first|refine qS ?_|refine xR (λhc=>?_) (λhc=>?_)|refine wE (λhc=>?_)|(refine zE ?_;first|refine SM ?_)|fail))
  rw[hor];refine zW kz ?_;exact zL
 rw[zYo h7];have bd:∀i k,BY ((b.drop i).take k):=λi k x hx=>hb x (zZn (zZ1 hx))
 have kc:=zRn ((b.drop 2).take (N+4)) zRc (bd _ _);have kn:=zLn ((b.drop (N+6)).take 4) zRc (bd _ _)
 have e1:((b.map yA).drop (2:Int).toNat).take ((6+(N:Int)).toNat-(2:Int).toNat)=((b.drop 2).take (N+4)).map yA:=by
  rw[yCb,yCa,show(6+(N:Int)).toNat-(2:Int).toNat=N+4 by omega];rfl
 have e2:((b.map yA).drop (6+(N:Int)).toNat).take ((6+(N:Int)+4).toNat-(6+(N:Int)).toNat)=((b.drop (N+6)).take 4).map yA:=by
  rw[yCb,yCa,show(6+(N:Int)+4).toNat-(6+(N:Int)).toNat=4 by omega,show(6+(N:Int)).toNat=N+6 by omega]
 have e3:((b.map yA).drop (6:Int).toNat).take ((6+(N:Int)).toNat-(6:Int).toNat)=((b.drop 6).take N).map yA:=by
  rw[yCb,yCa,show(6+(N:Int)).toNat-(6:Int).toNat=N by omega];rfl
 have hpl:(((b.drop 6).take N).map yA).length=N:=by rw[zYq,zY5,zZk];omega
 have hph:∀y,(((b.drop 6).take N).map yA)[0]? =some y->y.cells.length=1:=yY _ _ (λ_=>rfl);generalize (b.drop 2).take (N+4)=B1 at *;generalize (b.drop (N+6)).take 4=B2 at *;generalize (b.drop 6).take N=B3 at *;clear bd;obtain⟨y2,z2⟩:=byI b hb 2 zB;obtain⟨y3,z3⟩:=byI b hb 3 zB;generalize b.getD 2 0=x2 at *;generalize b.getD 3 0=x3 at *;generalize aK B1=u1 at *;generalize GA B2=u2 at *;by_cases h8:u1=u2
 case neg=>
  rw[zYp h8];refine eM call134 λF hF=>?_
  (repeat' (first|refine qS ?_|refine xR (λhc=>?_) (λhc=>?_)|refine wE (λhc=>?_)|(refine zE ?_;first|refine SM ?_)|fail))
  rw[hor];refine xA (gK kz kc kn) ?_;exact zL
 rw[zYo (λh=>h h8)];by_cases h9:x2=1
 case neg=>
  rw[zYp h9];refine eM call134 λF hF=>?_
  (repeat' (first|refine qS ?_|refine xR (λhc=>?_) (λhc=>?_)|refine wE (λhc=>?_)|(refine zE ?_;first|refine SM ?_)|fail))
  rw[hor];refine xA (gK kz kc kn) ?_;refine zI [] rfl rfl (zZl (λz=>AV.tup [.agg [iA 3,iA 0,.sl false []],iA z,bA true]) ?_) rfl;omega
 rw[zYo (λh=>h h9)];by_cases h10:x3<1∨22<x3
 ·rw[zYp h10]
  rcases h10 with h10|h10
  all_goals
   refine eM call134 λF hF=>?_
   (repeat' (first|refine qS ?_|refine xR (λhc=>?_) (λhc=>?_)|refine wE (λhc=>?_)|(refine zE ?_;first|refine SM ?_)|fail))
   rw[hor];refine xA (gK kz kc kn) ?_;refine zI [] rfl rfl (zZl (λz=>AV.tup [.agg [iA 5,iA 0,.sl false []],iA z,bA true]) ?_) rfl;omega
 ·rw[zYo h10];have h11:1<=x3:=by omega
  have h12:x3<=22:=by omega
  refine eM call134 λF hF=>?_
  (repeat' (first|refine qS ?_|refine xR (λhc=>?_) (λhc=>?_)|refine wE (λhc=>?_)|(refine zE ?_;first|refine SM ?_)|fail))
  rw[hor]
  (have zc1:=kz;have zc2:=kc;have zc3:=kn;(repeat' (first|refine qS ?_|refine xR (λhc=>?_) (λhc=>?_)|refine wE (λhc=>?_)|(refine zE ?_;first|refine SM ?_|(refine uF (OW tok rfl rfl rfl rfl rfl rfl rfl hph rfl zB) rfl rfl rfl ?_))|fail))<;>clear zc1 zc2 zc3)
  have hsz:6+(N:Int)+4=((N+10:Nat):Int):=by omega
  refine zI [] rfl rfl ?_ rfl
  show AV.tup [.agg [iA 0,iA x3,.sl false (List.take N (List.drop 0 (List.take 0 (List.replicate N (yA 0))++B3.map yA++List.drop (0+(B3.map yA).length) (List.replicate N (yA 0)))))],iA (6+(N:Int)+4),bA true]=_
  rw[hsz,hpl,zZv,yBs,yA9,yC1 zU,zZo,zYy zB];rfl
end
structure Vw where
 fl:Bool
 ov:Bool
 co:List Int
 cn:List Int
instance:Inhabited Vw:=⟨⟨false,false,[],[]⟩⟩
def vO (v:Vw):AV:= .agg [bA v.fl,bA v.ov,zD iA v.co,zD iA v.cn]
structure BT (v:Vw):Prop where
 n:v.co.length<=8
 m:v.cn.length<=8
 c:∀c∈v.co,0<=c/\c<=2
def WQ (n:Int):Int:=IntKind.u8.wrap n
def hdF (a b:Bool):Int:=(if a=true then 1 else 0)+(if b=true then 2 else 0)
def kW (l:List Int):Nat->Int
 |0=>0
 |i+1=>kW l i+l.getD i 0*p2 (2*(i:Int))
def vwF (v:Vw):List Int:=[hdF v.fl v.ov,uT (kW v.co v.co.length) 8,WQ (kW v.co v.co.length)]++v.cn.map WQ
def MC (l:List Vw):List Int:=(l.map vwF).flatten
theorem zLq (i:Nat):p2 (2*((i+1:Nat):Int))=p2 (2*(i:Int))*4:=by
 unfold p2;rw[show(2*((i+1:Nat):Int)).toNat=(2*(i:Int)).toNat+2 by omega,Int.pow_add];rfl
theorem WR (i:Nat) (h:i<=8):1<=p2 (2*(i:Int))/\p2 (2*(i:Int))<=65536:=by
 have:i=0∨i=1∨i=2∨i=3∨i=4∨i=5∨i=6∨i=7∨i=8:=by omega
 rcases this with rfl|rfl|rfl|rfl|rfl|rfl|rfl|rfl|rfl<;>decide
theorem GB {l:List Int} (h:∀c∈l,0<=c/\c<=2):∀i,i<=l.length->i<=8->0<=kW l i/\kW l i<p2 (2*(i:Int))
 |0,_,_=>by simp[kW,p2]
 | i+1,h1,h2=>by
  have ih:=GB h i zB zB
  have hm:l.getD i 0∈l:=by
   rw[zY0,zZd zB];exact yBm _
  have hc:=h _ hm;have hp:=WR i zB;rw[zLq,kW];generalize l.getD i 0=c at *;generalize p2 (2*(i:Int))=w at *;have:c=0∨c=1∨c=2:=by omega
  rcases this with rfl|rfl|rfl<;>omega
theorem zXj {n:Int} (h0:0<=n) (h1:n<65536):0<=uT n 8/\uT n 8<=255:=by
 unfold uT;rw[show(2:Int) ^ (8:Int).toNat=256 from rfl,yB9 _ zB];omega
theorem zLr (pre:List Vw) (v:Vw):(MC (pre++[v])).map yA=(MC pre).map yA++[yA (hdF v.fl v.ov),yA (uT (kW v.co v.co.length) 8),yA (WQ (kW v.co v.co.length))]++v.cn.map (λn=>yA (WQ n)):=by
 unfold MC vwF;simp
theorem UX {l:List Vw} (h:∀v∈l,BT v):(MC l).length<=11*l.length:=by
 unfold MC
 induction l with
 |nil=>simp
 |cons v l ih=>
  have h1:=ih λx hx=>h x VX
  have h2:=(h v zU).m;rw[yAa,yBf,zYr,zY2];unfold vwF;rw[zYr,zYq];simp only[zY2,zZz];unfold vwF at h1;omega
theorem zLs (l:List Vw) (hn:l.length<=1000) (hb:∀v∈l,BT v):zO 82 [zD vO l] [] (.ref 1001 0 ((MC l).map yA).length) [(1001,.arr 1 ((MC l).map yA) true)]:=by
 have hl:=zA vO l;have hfin:=UX hb;refine eM call82 λF hF=>?_
 refine WW ?_;refine xK 3 1001 1 rfl rfl rfl ?_;refine yS (l) [1001] [] [13,14] [3,15,13,14] rfl (λi pre T U=>⟨(3,.ref 1001 0 ((MC pre).map yA).length)::(15,iA i)::T,(1001,.arr 1 ((MC pre).map yA) true)::U⟩) ?_;(conv=>whnf);refine⟨by rfl,?_,?_⟩
 ·intro i pre v post hx hi;have hy:=xO vO hx hi;have hlt:=yX hx hi;have hv:=hb v (wY hx);have hpl:=UX (l:=pre) (λw hw=>hb w (by rw[hx];simp[hw]));have hxl:((MC pre).map yA).length<=11000:=by rw[zYq];omega
  rw[zLr];clear hx hpl hfin;generalize (MC pre).map yA=xs at *;have hc1:=zA iA v.co;have hc2:=zA iA v.cn;have hbd:=λk hk=>GB hv.c k hk (zZy hk hv.n)
  have hn8:=hv.n;have hm8:=hv.m;obtain⟨fl,ov,co,cn⟩:=v;dsimp only at *;rw[show vO ⟨fl,ov,co,cn⟩= .agg [bA fl,bA ov,zD iA co,zD iA cn]from rfl]at hy;have hlast:=hbd co.length (zYs _);have hpl8:=WR co.length hn8;have hs8:=zXj (n:=kW co co.length) hlast.1 zB
  cases fl<;>cases ov
  ·(refine WW ?_)
   refine yS (co) [5,1001] [5,1001] [3,5,6,13,14,15,28,29] [7,8,30,3,5,6,13,14,15,28,29] rfl (λi pre T U=>⟨(7,iA (kW co i))::(8,iA (p2 (2*(i:Int))))::(30,iA i)::T,U⟩) ?_;(conv=>whnf);refine⟨by rfl,?_,?_⟩
   ·intro k pre2 c post2 hx2 hk;have hy2:=xO iA hx2 hk;have hlt2:=yX hx2 hk;have hcm:=hv.c c (wY hx2);have hg:co.getD k 0=c:=by rw[hx2,<-hk];simp[List.getD]
    have hb1:=hbd k zB;have hp1:=WR k zB;have e1:kW co (k+1)=kW co k+c*p2 (2*(k:Int)):=by rw[kW,hg]
    rw[e1,zLq];clear hx2 hbd hlast hpl8 hs8 e1 hv;generalize kW co k=s at *;generalize p2 (2*(k:Int))=w at *;have:c=0∨c=1∨c=2:=by omega
    rcases this with rfl|rfl|rfl
    all_goals
     refine WW ?_;rfl
   ·clear hbd hv;generalize kW co co.length=s at *;refine WW ?_;refine yS (cn) [1001] [] [13,14,15,53,54] [3,55,13,14,15,53,54] rfl (λi pre T U=>⟨(3,.ref 1001 0 (xs++[yA (hdF false false),yA (uT s 8),yA (WQ s)]++pre.map (λn=>yA (WQ n))).length)::(55,iA i)::T,(1001,.arr 1 (xs++[yA (hdF false false),yA (uT s 8),yA (WQ s)]++pre.map (λn=>yA (WQ n))) true)::U⟩) ?_;(conv=>whnf);refine⟨by(simp only[yA5,zZo];rfl),?_,?_⟩
    ·intro k pre2 c post2 hx2 hk;have hy2:=xO iA hx2 hk;have hlt2:=yX hx2 hk;have hpk:(pre2.map (λn=>yA (WQ n))).length=k:=by rw[zYq];exact hk
     rw[zYz,yAa,yA5,<-zZc];clear hx2;generalize pre2.map (λn=>yA (WQ n))=zs2 at *;refine WW ?_;rfl
    ·(refine WW ?_)
     rfl
  ·(refine WW ?_)
   refine yS (co) [5,1001] [5,1001] [3,5,6,13,14,15,28,29] [7,8,30,3,5,6,13,14,15,28,29] rfl (λi pre T U=>⟨(7,iA (kW co i))::(8,iA (p2 (2*(i:Int))))::(30,iA i)::T,U⟩) ?_;(conv=>whnf);refine⟨by rfl,?_,?_⟩
   ·intro k pre2 c post2 hx2 hk;have hy2:=xO iA hx2 hk;have hlt2:=yX hx2 hk;have hcm:=hv.c c (wY hx2);have hg:co.getD k 0=c:=by rw[hx2,<-hk];simp[List.getD]
    have hb1:=hbd k zB;have hp1:=WR k zB;have e1:kW co (k+1)=kW co k+c*p2 (2*(k:Int)):=by rw[kW,hg]
    rw[e1,zLq];clear hx2 hbd hlast hpl8 hs8 e1 hv;generalize kW co k=s at *;generalize p2 (2*(k:Int))=w at *;have:c=0∨c=1∨c=2:=by omega
    rcases this with rfl|rfl|rfl
    all_goals
     refine WW ?_;rfl
   ·clear hbd hv;generalize kW co co.length=s at *;refine WW ?_;refine yS (cn) [1001] [] [13,14,15,53,54] [3,55,13,14,15,53,54] rfl (λi pre T U=>⟨(3,.ref 1001 0 (xs++[yA (hdF false true),yA (uT s 8),yA (WQ s)]++pre.map (λn=>yA (WQ n))).length)::(55,iA i)::T,(1001,.arr 1 (xs++[yA (hdF false true),yA (uT s 8),yA (WQ s)]++pre.map (λn=>yA (WQ n))) true)::U⟩) ?_;(conv=>whnf);refine⟨by(simp only[yA5,zZo];rfl),?_,?_⟩
    ·intro k pre2 c post2 hx2 hk;have hy2:=xO iA hx2 hk;have hlt2:=yX hx2 hk;have hpk:(pre2.map (λn=>yA (WQ n))).length=k:=by rw[zYq];exact hk
     rw[zYz,yAa,yA5,<-zZc];clear hx2;generalize pre2.map (λn=>yA (WQ n))=zs2 at *;refine WW ?_;rfl
    ·(refine WW ?_)
     rfl
  ·(refine WW ?_)
   refine yS (co) [5,1001] [5,1001] [3,5,6,13,14,15,28,29] [7,8,30,3,5,6,13,14,15,28,29] rfl (λi pre T U=>⟨(7,iA (kW co i))::(8,iA (p2 (2*(i:Int))))::(30,iA i)::T,U⟩) ?_;(conv=>whnf);refine⟨by rfl,?_,?_⟩
   ·intro k pre2 c post2 hx2 hk;have hy2:=xO iA hx2 hk;have hlt2:=yX hx2 hk;have hcm:=hv.c c (wY hx2);have hg:co.getD k 0=c:=by rw[hx2,<-hk];simp[List.getD]
    have hb1:=hbd k zB;have hp1:=WR k zB;have e1:kW co (k+1)=kW co k+c*p2 (2*(k:Int)):=by rw[kW,hg]
    rw[e1,zLq];clear hx2 hbd hlast hpl8 hs8 e1 hv;generalize kW co k=s at *;generalize p2 (2*(k:Int))=w at *;have:c=0∨c=1∨c=2:=by omega
    rcases this with rfl|rfl|rfl
    all_goals
     refine WW ?_;rfl
   ·clear hbd hv;generalize kW co co.length=s at *;refine WW ?_;refine yS (cn) [1001] [] [13,14,15,53,54] [3,55,13,14,15,53,54] rfl (λi pre T U=>⟨(3,.ref 1001 0 (xs++[yA (hdF true false),yA (uT s 8),yA (WQ s)]++pre.map (λn=>yA (WQ n))).length)::(55,iA i)::T,(1001,.arr 1 (xs++[yA (hdF true false),yA (uT s 8),yA (WQ s)]++pre.map (λn=>yA (WQ n))) true)::U⟩) ?_;(conv=>whnf);refine⟨by(simp only[yA5,zZo];rfl),?_,?_⟩
    ·intro k pre2 c post2 hx2 hk;have hy2:=xO iA hx2 hk;have hlt2:=yX hx2 hk;have hpk:(pre2.map (λn=>yA (WQ n))).length=k:=by rw[zYq];exact hk
     rw[zYz,yAa,yA5,<-zZc];clear hx2;generalize pre2.map (λn=>yA (WQ n))=zs2 at *;refine WW ?_;rfl
    ·(refine WW ?_)
     rfl
  ·(refine WW ?_)
   refine yS (co) [5,1001] [5,1001] [3,5,6,13,14,15,28,29] [7,8,30,3,5,6,13,14,15,28,29] rfl (λi pre T U=>⟨(7,iA (kW co i))::(8,iA (p2 (2*(i:Int))))::(30,iA i)::T,U⟩) ?_;(conv=>whnf);refine⟨by rfl,?_,?_⟩
   ·intro k pre2 c post2 hx2 hk;have hy2:=xO iA hx2 hk;have hlt2:=yX hx2 hk;have hcm:=hv.c c (wY hx2);have hg:co.getD k 0=c:=by rw[hx2,<-hk];simp[List.getD]
    have hb1:=hbd k zB;have hp1:=WR k zB;have e1:kW co (k+1)=kW co k+c*p2 (2*(k:Int)):=by rw[kW,hg]
    rw[e1,zLq];clear hx2 hbd hlast hpl8 hs8 e1 hv;generalize kW co k=s at *;generalize p2 (2*(k:Int))=w at *;have:c=0∨c=1∨c=2:=by omega
    rcases this with rfl|rfl|rfl
    all_goals
     refine WW ?_;rfl
   ·clear hbd hv;generalize kW co co.length=s at *;refine WW ?_;refine yS (cn) [1001] [] [13,14,15,53,54] [3,55,13,14,15,53,54] rfl (λi pre T U=>⟨(3,.ref 1001 0 (xs++[yA (hdF true true),yA (uT s 8),yA (WQ s)]++pre.map (λn=>yA (WQ n))).length)::(55,iA i)::T,(1001,.arr 1 (xs++[yA (hdF true true),yA (uT s 8),yA (WQ s)]++pre.map (λn=>yA (WQ n))) true)::U⟩) ?_;(conv=>whnf);refine⟨by(simp only[yA5,zZo];rfl),?_,?_⟩
    ·intro k pre2 c post2 hx2 hk;have hy2:=xO iA hx2 hk;have hlt2:=yX hx2 hk;have hpk:(pre2.map (λn=>yA (WQ n))).length=k:=by rw[zYq];exact hk
     rw[zYz,yAa,yA5,<-zZc];clear hx2;generalize pre2.map (λn=>yA (WQ n))=zs2 at *;refine WW ?_;rfl
    ·(refine WW ?_)
     rfl
 ·(refine WW ?_)
  exact zJ [1001] rfl rfl rfl rfl
def cdW (g:Lg) (w:Vw):Int:=if 0<=g.ph/\g.ph<(w.co.length:Int)then(if w.ov=true/\w.fl=false/\w.co.getD g.ph.toNat default=1 then 3 else 2)else 1
def cdF (g:Lg) (v:List Vw) (now:Int):Int:=if liB g now=true/\0<=g.jn/\g.jn<(v.length:Int)then cdW g (v.getD g.jn.toNat default)else 1
theorem zLt (g:Lg) (v:List Vw) (now:Int):1<=cdF g v now/\cdF g v now<=3:=by
 unfold cdF cdW
 repeat' split
 all_goals omega
theorem zLu (g:Lg) (v:List Vw) (now:Int) {Q:Int->Prop} (q1:liB g now=false->Q 1) (q2:liB g now=true->g.jn<0->Q 1) (q3:liB g now=true->0<=g.jn->(v.length:Int)<=g.jn->Q 1)
  (q4:∀w,liB g now=true->0<=g.jn->g.jn<(v.length:Int)->(v.map vO)[g.jn.toNat]? =some (vO w)->g.ph<0->Q 1)
  (q5:∀w,liB g now=true->0<=g.jn->g.jn<(v.length:Int)->(v.map vO)[g.jn.toNat]? =some (vO w)->0<=g.ph->(w.co.length:Int)<=g.ph->Q 1)
  (q6:∀w c,liB g now=true->0<=g.jn->g.jn<(v.length:Int)->(v.map vO)[g.jn.toNat]? =some (vO w)->0<=g.ph->g.ph<(w.co.length:Int)->(w.co.map iA)[g.ph.toNat]? =some (iA c)->Q (if w.ov=true/\w.fl=false/\c=1 then 3 else 2)):Q (cdF g v now):=by
 unfold cdF
 cases hl:liB g now with
 |false=>rw[zYo (λh=>by cases h.1)];exact q1 hl
 |true=>
  by_cases j0:g.jn<0
  ·rw[zYo (λh=>by omega)];exact q2 hl j0
  by_cases j1:(v.length:Int)<=g.jn
  ·rw[zYo (λh=>by omega)];exact q3 hl zB j1
  have hy:=yP vO v g.jn zB zB;rw[zYp ⟨rfl,zB,zB⟩];generalize v.getD g.jn.toNat default=w at *;unfold cdW;by_cases p0:g.ph<0
  ·rw[zYo (λh=>by omega)];exact q4 w hl zB zB hy p0
  by_cases p1:(w.co.length:Int)<=g.ph
  ·rw[zYo (λh=>by omega)];exact q5 w hl zB zB hy zB p1
  have hy2:=yP iA w.co g.ph zB zB;rw[zYp ⟨zB,zB⟩];exact q6 w _ hl zB zB hy zB zB hy2
theorem zVg (g:Lg) (v:List Vw) (now:Int) (hn:v.length<=1000) (hb:∀w∈v,w.co.length<=1000):zO 202 [xW g,zD vO v,iA now] [] (iA (cdF g v now)) []:=by
 have cl:=zG8 g now;have hvl:=zA vO v;have hb:∀w,(v.map vO)[g.jn.toNat]? =some (vO w)->(w.co.map iA).length=w.co.length:=λw _=>zA iA w.co
 unfold xW at *;refine zLu (Q:=λr=>zO 202 [.agg [iA g.jn,iA g.ph,iA g.fr,iA g.to,iA g.sc],zD vO v,iA now] [] (iA r) []) g v now (λh1=>?_) (λh1 h2=>?_) (λh1 h2 h3=>?_) (λw h1 h2 h3 hy h4=>?_) (λw h1 h2 h3 hy h4 h5=>?_) (λw c h1 h2 h3 hy h4 h5 hy2=>?_)
 ·rw[h1]at cl;refine eM call202 λF hF=>?_
  refine zW cl ?_;exact zL
 ·rw[h1]at cl;refine eM call202 λF hF=>?_
  refine zW cl ?_;exact zL
 ·rw[h1]at cl;refine eM call202 λF hF=>?_
  refine zW cl ?_;exact zL
 ·rw[h1]at cl;unfold vO at hy;refine eM call202 λF hF=>?_
  refine zW cl ?_;exact zL
 ·rw[h1]at cl;have hwl:=hb w hy;unfold vO zD at hy;refine eM call202 λF hF=>?_
  refine zW cl ?_;exact zL
 ·rw[h1]at cl;have hwl:=hb w hy;clear hb;obtain⟨fl,ov,co,cn⟩:=w;rw[show vO ⟨fl,ov,co,cn⟩= .agg [bA fl,bA ov,zD iA co,zD iA cn]from rfl]at hy;dsimp only at *;cases ov
  ·(refine eM call202 λF hF=>?_)
   refine zW cl ?_;exact zL
  cases fl
  case true=>
   refine eM call202 λF hF=>?_
   refine zW cl ?_;exact zL
  by_cases hc1:c=1
  ·rw[zYp ⟨rfl,rfl,hc1⟩];refine eM call202 λF hF=>?_
   refine zW cl ?_;exact zL
  ·rw[zYo (λh=>hc1 h.2.2)];refine eM call202 λF hF=>?_
   refine zW cl ?_;exact zL
def cqF (l:List Rq) (v:List Vw) (now:Int) (i:Nat):Int:=if i/3<l.length/\i % 3<(l.getD (i/3) default).legs.length then cdF ((l.getD (i/3) default).legs.getD (i % 3) default) v now else 0
def cqL (l:List Rq) (v:List Vw) (now:Int) (n:Nat):List Int:=(List.range n).map (cqF l v now)
def CZ (l:List Rq) (v:List Vw) (now:Int) (N i:Nat):List Int:=(List.range N).map λj=>if j<i then cqF l v now j else 0
theorem zDn (l:List Rq) (v:List Vw) (now:Int) (N i:Nat):(CZ l v now N i).length=N:=by simp[CZ]
theorem zLv (l:List Rq) (v:List Vw) (now:Int) (N:Nat):(CZ l v now N 0).map yA=List.replicate N (yA 0):=by
 apply zZ9;intro j;unfold CZ;rw[zYt,zYt,yAm];by_cases hj:j<N
 ·rw[zZr hj,zYp hj];simp
 ·rw[zZj wI,zYo hj];rfl
theorem zBj (l:List Rq) (v:List Vw) (now:Int) (N k j:Nat):((CZ l v now N k).map yA)[j]? =if j<N then some (yA (if j<k then cqF l v now j else 0))else none:=by
 unfold CZ;rw[zYt,zYt];by_cases hj:j<N
 ·rw[zZr hj,zYp hj];rfl
 ·rw[zZj wI,zYo hj];rfl
theorem zLw (l:List Rq) (v:List Vw) (now:Int) (N i:Nat) (hi:i<N):(CZ l v now N (i+1)).map yA=((CZ l v now N i).map yA).set i (yA (cqF l v now i)):=by
 apply zZ9;intro j;rw[yAx,zBj,zBj,zYq,zDn];by_cases he:i=j
 ·subst he;rw[zYp hi,zYp rfl,zYp hi,zYp (Nat.lt_succ_self i)]
 ·rw[zYo he];by_cases hj:j<N
  ·rw[zYp hj,zYp hj];by_cases h2:j<i
   ·rw[zYp zB,zYp h2]
   ·rw[zYo zB,zYo h2]
  ·rw[zYo hj,zYo hj]
theorem zQi (l:List Rq) (v:List Vw) (now:Int) (N:Nat):CZ l v now N N=cqL l v now N:=by
 unfold CZ cqL;apply yB7;intro j hj;rw[zYp (zZi.1 hj)]
theorem zQj (l:List Rq) (q:Nat) (v:List Vw) (now:Int) (hq:q<=1000) (hl:l.length<=1000) (hlg:∀r∈l,r.legs.length<=1000) (hn:v.length<=1000) (hb:∀w∈v,w.co.length<=1000):
  zO 165 [zD yL l,iA q,zD vO v,iA now] [] (zD yA (cqL l v now (q*3))) []:=by
 have hll:=zA yL l;by_cases h0:q=0
 ·subst h0;refine eM call165 λF hF=>?_
  refine WW ?_;exact zL
 have e0:=zLv l v now (q*3);have hvl:=zA vO v;refine eM call165 λF hF=>?_
 refine WW ?_;have hN9:q*3<=3000:=by omega
 generalize q*3=N at *;refine zP (N) [21] [] [0,2,3,9,23] [24,0,2,3,9,23] rfl (λi T U=>⟨(24,iA i)::T,(21,.arr 1 ((CZ l v now N i).map yA) false)::U⟩) ?_;(conv=>whnf);refine⟨by(rw[e0];rfl),?_,?_⟩
 ·intro i hi;have hr:(i:Int).tdiv 3=((i/3:Nat):Int):=by rw[yAh zB];omega
  have hk:(i:Int).tmod 3=((i % 3:Nat):Int):=by rw[yAi zB];omega
  have hin:XB .i64 ((i:Int).tdiv 3):=⟨by show -9223372036854775808<=_;omega,by show _<=9223372036854775807;omega⟩;have hnl:((CZ l v now N i).map yA).length=N:=by rw[zYq,zDn]
  have e:=zLw l v now N i hi;rw[e];have hyx:((CZ l v now N i).map yA)[i]? =some (yA (if i<i then cqF l v now i else 0)):=by rw[zBj,zYp hi]
  have hset:∀y:AV,(((CZ l v now N i).map yA).set i y)[i]? =some y:=λy=>yAg zB
  by_cases hr1:i/3<l.length
  ·have hy:(l.map yL)[((i:Int).tdiv 3).toNat]? =some (yL (l.getD (i/3) default)):=by rw[hr];exact zN yL l _ hr1
   have hxl:(l.getD (i/3) default).legs.length<=1000:=hlg _ (by rw[zY0,zZd hr1];exact yBm _);have hxm:=zA xW (l.getD (i/3) default).legs
   have ec:cqF l v now i=if i % 3<(l.getD (i/3) default).legs.length then cdF ((l.getD (i/3) default).legs.getD (i % 3) default) v now else 0:=by
    unfold cqF;by_cases h:i % 3<(l.getD (i/3) default).legs.length
    ·rw[zYp ⟨hr1,h⟩,zYp h]
    ·rw[zYo (λh9=>h h9.2),zYo h]
   rw[ec];clear e ec e0;generalize l.getD (i/3) default=x at *;unfold yL zD at hy;by_cases hk1:i % 3<x.legs.length
   ·have hy2:(x.legs.map xW)[((i:Int).tmod 3).toNat]? =some (xW (x.legs.getD (i % 3) default)):=by rw[hk];exact zN xW x.legs _ hk1
    have cc:=zVg (x.legs.getD (i % 3) default) v now hn hb;have hcb:=zLt (x.legs.getD (i % 3) default) v now;rw[zYp hk1];generalize cdF (x.legs.getD (i % 3) default) v now=c at *;generalize x.legs.getD (i % 3) default=g at *;generalize (CZ l v now N i).map yA=xs at*
    (have zc1:=cc;(repeat' (first|refine WTR ?_|refine xR (λhc=>?_) (λhc=>?_)|refine wE (λhc=>?_)|(refine zE ?_;first|(refine dE ?_;refine OT tok rfl rfl rfl (hset _) rfl rfl rfl rfl rfl rfl rfl rfl ?_)|refine SM ?_)|refine SB ?_|fail))<;>clear zc1)
    refine zZl (St.mk _) ?_
    show [(21,xP.arr 1 ((xs.set i _).set i _) _)]=_
    rw[yDl];rfl
   ·rw[zYo hk1];generalize (CZ l v now N i).map yA=xs at *;refine WW ?_;rfl
  ·have ec:cqF l v now i=0:=by unfold cqF;rw[zYo (λh=>hr1 h.1)]
   rw[ec];clear e ec e0;generalize (CZ l v now N i).map yA=xs at *;refine WW ?_;rfl
 ·rw[zQi];refine WW ?_;refine zI [] rfl rfl ?_ rfl;exact zZl (AV.sl false) (zYy (by simp[cqL]))
def stM (now:Int) (v:List Vw) (b:List Int):Ms:=⟨17,[],[now],MC v++b⟩
theorem zVh (now:Int) (v:List Vw) (b:List Int) (hn:v.length<=1000) (hb:∀w∈v,BT w) (hl:b.length<=10000):zO 166 [iA now,zD vO v,zD yA b] [] (yB (stM now v b)) []:=by
 have kr:=zLs v hn hb;have h1:=UX hb;have hrl:=zA yA (MC v);have hbl:=zA yA b;rw[show yB (stM now v b)= .agg [iA 17,.sl false [],.sl false [iA now],.sl false ((MC v).map yA++b.map yA)] by unfold stM yB zD;rw[zYz];rfl];generalize (MC v).map yA=xs at *;refine eM call166 λF hF=>?_
 refine WLo kr ?_;refine zI [] rfl rfl ?_ rfl;exact zZl (λz=>AV.agg [iA 17,AV.sl false [],AV.sl false [iA now],AV.sl false z]) zYv
def bX (d:xQ) (v:List Vw) (now:Int):Ms:=stM now v (cqL d.rq v now (d.rg.ag.req.toNat*3))
theorem BA (d:xQ) (hd:eU d) (hq:0<=d.rg.ag.req/\d.rg.ag.req<=4) (v:List Vw) (now:Int) (hn:v.length<=1000) (hb:∀w∈v,BT w):zO 116 [zK d,zD vO v,iA now] [] (yB (bX d v now)) []:=by
 have c1:=zQj d.rq d.rg.ag.req.toNat v now zB hd.q hd.g hn (λw hw=>zZy (hb w hw).n xN);rw[show((d.rg.ag.req.toNat:Nat):Int)=d.rg.ag.req by omega]at c1;have c2:=zVh now v (cqL d.rq v now (d.rg.ag.req.toNat*3)) hn hb (by simp[cqL];omega);unfold bX;generalize cqL d.rq v now (d.rg.ag.req.toNat*3)=cs at *;unfold yB at *;unfold zK wH;generalize MC v=rc at *;refine eM call116 λF hF=>?_
 refine xA (vD c1 c2) ?_;exact zL
def vwZ (n:Nat):Vw:=⟨true,false,List.replicate n 0,List.replicate n 0⟩
theorem zXk {n:Nat} (h:n<=8):BT (vwZ n):=⟨by simp[vwZ];exact h,by simp[vwZ];exact h,λc hc=>by
 have:=(yCy.1 hc).2
 omega⟩
structure Li where
 lamp:Int
 tk:Int
structure Ct where
 li:List Li
 gr:Int
 nx:List Int
 wt:Int
instance:Inhabited Li:=⟨⟨0,0⟩⟩
def vM (l:Li):AV:= .agg [iA l.lamp,iA l.tk]
def ctA (c:Ct):AV:= .agg [zD vM c.li,iA c.gr,zD iA c.nx,iA c.wt]
def eO (rows:List Int) (p q:Int):Bool:=decide (0<=p/\0<=q/\p<rows.length/\q<rows.length)&&(eI (uT (rows.getD p.toNat default) q) 1==1)
def lnF (p:Ph):Int:=max p.ming (p.walk+p.clear)
def lpF (p:Ph) (l:Li) (lv:Bool):Li:=
 if l.lamp=1 then(if lv=true/\lnF p<=l.tk+1 then⟨2,0⟩else⟨1,min (l.tk+1) 1073741824⟩)
 else if l.lamp=2 then(if l.tk+1<p.yel then⟨2,l.tk+1⟩else if p.red=0 then⟨0,0⟩else⟨3,0⟩)
 else if l.lamp=3 then(if l.tk+1<p.red then⟨3,l.tk+1⟩else⟨0,0⟩)
 else l
def LD (p:Ph) (l:Li):Bool:=if l.lamp=0 then decide (l.tk=0)else if l.lamp=1 then decide (0<=l.tk/\l.tk<=1073741824)else if l.lamp=2 then decide (0<=l.tk/\l.tk<p.yel)else if l.lamp=3 then decide (0<=l.tk/\l.tk<p.red)else false
def xI (j:Jn) (p:Nat):Ph:=j.ph.getD p default
def vI (c:Ct) (p:Nat):Li:=c.li.getD p default
def InO (j:Jn) (r g p:Int):Prop:=0<=p/\p<j.ph.length/\(xI j p.toNat).ring=r/\(xI j p.toNat).group=g
def grN (ps:List Ph):Nat->Int
 |0=>0
 |i+1=>max (grN ps i) ((ps.getD i default).group+1)
def UY (j:Jn):Int:=grN j.ph j.ph.length
theorem zLx (ps:List Ph) (n:Nat):∀i,i<n->(ps.getD i default).group+1<=grN ps n:=by
 induction n with
 |zero=>intro i h;exact absurd h (yBb _)
 |succ n ih=>
  intro i h;unfold grN;by_cases e:i=n
  ·subst e;omega
  ·have:=ih i zB;omega
def rpN (j:Jn) (r:Int) (i:Nat):List Nat:=(List.range i).filter λp=>(xI j p).ring==r
def MD (j:Jn) (r:Int):List Nat:=rpN j r j.ph.length
theorem YO {j:Jn} {r:Int} {p:Nat}:p∈MD j r↔p<j.ph.length/\(xI j p).ring=r:=by
 unfold MD rpN;rw[yBl,zZi,zZ7]
def bE (j:Jn) (r g f:Int):Int:=match (MD j r).find? (λp:Nat=>decide (f<=(p:Int))&&(xI j p).group==g)with
 |some p=>p
 |none=> -1
theorem NT (j:Jn) (r g f:Int):bE j r g f= -1∨InO j r g (bE j r g f)/\f<=bE j r g f:=by
 unfold bE;split
 ·rename_i p h;have h1:=yEk h;have h2:=YO.1 (yDg h);simp only[zY6,zZ7,zYx]at h1;exact .inr ⟨⟨zB,zB,h2.2,h1.2⟩,h1.1⟩
 ·exact .inl rfl
def etF (j:Jn) (c:Ct) (g:Int):Ct:=⟨c.li,g,[bE j 0 g 0,bE j 1 g 0],c.wt⟩
def WX (j:Jn) (c:Ct) (p:Int):Bool:=(List.range c.li.length).any λq=>(vI c q).lamp != 0&&eO j.cf p q
def b1F (c:Ct) (p:Nat):Ct:=⟨c.li.set p ⟨1,0⟩,c.gr,c.nx,c.wt⟩
def BB (j:Jn) (c:Ct) (p:Nat):Ct:=if c.gr=(xI j p).group then b1F c p else etF j (b1F c p) (xI j p).group
def gE (j:Jn) (c:Ct) (p:Nat):Ct:=
 if WX j c p=true then c
 else⟨(BB j c p).li,(BB j c p).gr,(BB j c p).nx.set (xI j p).ring.toNat (bE j (xI j p).ring (xI j p).group (p+1)),(BB j c p).wt⟩
def dkF (j:Jn) (c:Ct) (r:Int):Bool:=(MD j r).all λp=>(vI c p).lamp==0
def cmF (j:Jn) (x r t:Int):Int:=match (MD j r).find? (λp:Nat=>!eO j.cf p t&&decide (x≠ -1/\x<=(p:Int)))with
 |some p=>p
 |none=>match (MD j r).find? (λp:Nat=>!eO j.cf p t)with
  |some p=>p
  |none=> -1
def XF (j:Jn) (c:Ct) (r:Int) (t:Nat):Int:=if r=(xI j t).ring then t else cmF j (c.nx.getD r.toNat default) r t
def cM (j:Jn) (t:Nat) (c:Ct) (r:Int):Ct:=if dkF j c r=true then(if XF j c r t= -1 then c else gE j c (XF j c r t).toNat)else c
def arF (c:Ct):Bool:=c.li.all λl=>l.lamp==0
def cyO (c:Ct):Bool:=arF c&&c.nx.all λp=>p== -1
def cN (j:Jn) (c:Ct) (r:Int):Ct:=if dkF j c r=true/\c.nx.getD r.toNat default≠ -1 then gE j c (c.nx.getD r.toNat default).toNat else c
def cyF (j:Jn) (c:Ct):Ct:=cN j (cN j (if cyO c=true then etF j c ((c.gr+1) % UY j)else c) 0) 1
def LE (j:Jn) (t:Int):Bool:=decide (0<=t/\t<j.ph.length)
def lvS (j:Jn) (c:Ct) (t:Int) (p:Nat):Bool:=
 if LE j t=true then decide ((p:Int)≠t)&&(decide ((xI j p).maxg<=(vI c p).tk+1)||eO j.cf p t)else decide ((xI j p).maxg<=(vI c p).tk+1)
def KR (j:Jn) (c:Ct) (t:Int):List Li:=(List.range j.ph.length).map λp=>lpF (xI j p) (vI c p) (lvS j c t p)
def stF (j:Jn) (c:Ct) (t:Int):Ct:=
 if 0<c.wt then⟨c.li,c.gr,c.nx,c.wt-1⟩
 else if LE j t=true then cM j t.toNat (cM j t.toNat ⟨KR j c t,c.gr,c.nx,c.wt⟩ 0) 1
 else cyF j ⟨KR j c t,c.gr,c.nx,c.wt⟩
structure JV (j:Jn):Prop where
 n:1<=j.ph.length/\j.ph.length<=8
 c:j.cf.length=j.ph.length
 row:∀i,i<j.ph.length->0<=j.cf.getD i default/\j.cf.getD i default<2 ^ j.ph.length
 ir:∀p:Nat,p<j.ph.length->eO j.cf p p=false
 sy:∀p q:Nat,p<j.ph.length->q<j.ph.length->eO j.cf p q=eO j.cf q p
 ap:∀p q:Nat,p<j.ph.length->q<j.ph.length->p≠q->(xI j p).ring=(xI j q).ring∨(xI j p).group≠(xI j q).group->eO j.cf p q=true
 rg:∀p:Nat,p<j.ph.length->0<=(xI j p).ring/\(xI j p).ring<=1
 gp:∀p:Nat,p<j.ph.length->0<=(xI j p).group/\(xI j p).group<=3
 ti:∀p:Nat,p<j.ph.length->1<=(xI j p).ming/\(xI j p).ming<=(xI j p).maxg/\(xI j p).maxg<=60/\1<=(xI j p).yel/\(xI j p).yel<=60/\0<=(xI j p).red/\(xI j p).red<=60/\0<=(xI j p).walk/\(xI j p).walk<=60/\0<=(xI j p).clear/\(xI j p).clear<=60/\(xI j p).walk+(xI j p).clear<=(xI j p).maxg/\((xI j p).walk=0↔(xI j p).clear=0)
 lo:∀p:Nat,p<j.ph.length->∀g:Int,0<=g->g<(xI j p).group->∃q:Nat,q<j.ph.length/\(xI j q).group=g
 st:0<=j.st/\j.st<=60
structure CV (j:Jn) (c:Ct):Prop where
 n:c.li.length=j.ph.length
 k:∀p,p<j.ph.length->LD (xI j p) (vI c p)=true
 x:∀p q:Nat,p<j.ph.length->q<j.ph.length->p≠q->(vI c p).lamp≠0->(vI c q).lamp≠0->eO j.cf p q=false
 g:0<=c.gr/\c.gr<UY j
 m:c.nx.length=2
 v:∀r:Nat,r<2->c.nx.getD r default= -1∨InO j r c.gr (c.nx.getD r default)
 w:0<=c.wt/\c.wt<=j.st
 z:c.wt=0∨∀p,p<j.ph.length->(vI c p).lamp=0
theorem GC {j:Jn} (J:JV j):1<=UY j:=by
 have h1:=zLx j.ph j.ph.length 0 zB8;have h2:=J.gp 0 zB8;unfold xI at h2;unfold UY;omega
theorem zRp (j:Jn) (c:Ct) (g:Int):∀r:Nat,r<2->(etF j c g).nx.getD r default= -1∨InO j r g ((etF j c g).nx.getD r default):=by
 intro r hr;have:r=0∨r=1:=by omega
 rcases this with rfl|rfl
 ·rcases NT j 0 g 0 with h|h
  ·exact .inl h
  ·exact .inr h.1
 ·rcases NT j 1 g 0 with h|h
  ·exact .inl h
  ·exact .inr h.1
theorem zLy {j:Jn} {c:Ct} (C:CV j c) {g:Int} (hg:0<=g/\g<UY j):CV j (etF j c g):=
 ⟨C.n,C.k,C.x,hg,rfl,zRp j c g,C.w,C.z⟩
theorem zQk (c:Ct) (p q:Nat) (l:Li) (gr:Int) (nx:List Int) (wt:Int) (hp:p<c.li.length):vI ⟨c.li.set p l,gr,nx,wt⟩ q=if q=p then l else vI c q:=by
 unfold vI;simp only[zY0,yAx];split
 ·rename_i h;subst h;simp[hp]
 ·rename_i h;rw[zYo (λe=>h e.symm)]
theorem zXl {j:Jn} (J:JV j) {c:Ct} (C:CV j c) (h0:c.wt=0) {p:Nat} (hp:p<j.ph.length) (hk:WX j c p=false):CV j (b1F c p):=by
 have hl:=C.n
 have hs:∀q,vI (b1F c p) q=if q=p then⟨1,0⟩else vI c q:=λq=>zQk c p q _ _ _ _ zB
 unfold WX at hk;rw[yBq]at hk
 have hc:∀q:Nat,q<j.ph.length->(vI c q).lamp≠0->eO j.cf p q=false:=λq hq hn=>by
  have:=hk q (zZi.2 zB);simp only[zY6,not_and,yBc]at this;exact this EP
 refine⟨by unfold b1F;simpa using hl,λq hq=>?_,λq r hq hr hqr h1 h2=>?_,C.g,C.m,C.v,C.w,.inl h0⟩
 ·rw[hs];split
  ·rfl
  ·exact C.k q hq
 ·rw[hs]at h1 h2;by_cases e1:q=p
  ·subst e1;rw[zYo (λe=>hqr e.symm)]at h2;exact hc r hr h2
  ·rw[zYo e1]at h1;by_cases e2:r=p
   ·subst e2;rw[J.sy q r hq hr];exact hc q hq h1
   ·rw[zYo e2]at h2;exact C.x q r hq hr hqr h1 h2
theorem zXm {j:Jn} (J:JV j) {c:Ct} (C:CV j c) (h0:c.wt=0) {p:Nat} (hp:p<j.ph.length) (hk:WX j c p=false):CV j (BB j c p)/\(BB j c p).gr=(xI j p).group/\(BB j c p).wt=0:=by
 have h1:=zXl J C h0 hp hk;unfold BB;split
 ·rename_i h;exact⟨h1,h,h0⟩
 ·have hg:=J.gp p hp;have:=zLx j.ph j.ph.length p hp;exact⟨zLy h1 ⟨hg.1,by unfold UY;unfold xI;omega⟩,rfl,h0⟩
theorem zRq {j:Jn} (J:JV j) {c:Ct} (C:CV j c) (h0:c.wt=0) {p:Nat} (hp:p<j.ph.length):CV j (gE j c p)/\(gE j c p).wt=0:=by
 unfold gE;split
 ·exact⟨C,h0⟩
 ·rename_i hk;obtain⟨B,hg,hw⟩:=zXm J C h0 hp (by simpa using hk);have hr:=J.rg p hp;refine⟨⟨B.n,B.k,B.x,B.g,by rw[yAk];exact B.m,λr hr2=>?_,B.w,B.z⟩,hw⟩;have hs:=NT j (xI j p).ring (xI j p).group (p+1);generalize bE j (xI j p).ring (xI j p).group (p+1)=f at *;dsimp only
  have e:((BB j c p).nx.set (xI j p).ring.toNat f).getD r default=if r=(xI j p).ring.toNat then f else(BB j c p).nx.getD r default:=by
   simp only[zY0,yAx];split
   ·rename_i h;subst h;rw[zYp rfl,B.m,zYp hr2];rfl
   ·rename_i h;rw[zYo (λe=>h e.symm)]
  rw[e];split
  ·rename_i h
   rcases hs with hs|hs
   ·exact .inl hs
   ·refine .inr ?_;rw[hg,show(r:Int)=(xI j p).ring by omega];exact hs.1
  ·exact B.v r hr2
theorem BC (j:Jn) (x r t:Int):cmF j x r t= -1∨∃p:Nat,cmF j x r t=p/\p<j.ph.length/\(xI j p).ring=r/\eO j.cf p t=false:=by
 unfold cmF;split
 ·rename_i p h;have h1:=yEk h;have h2:=YO.1 (yDg h);simp only[zY6,yA3]at h1;exact .inr ⟨p,rfl,h2.1,h2.2,h1.1⟩
 ·split
  ·rename_i p h;have h1:=yEk h;have h2:=YO.1 (yDg h);rw[yA3]at h1;exact .inr ⟨p,rfl,h2.1,h2.2,h1⟩
  ·exact .inl rfl
theorem zLz {j:Jn} {c:Ct} {r:Int} {t:Nat} (ht:t<j.ph.length):XF j c r t= -1∨∃p:Nat,XF j c r t=p/\p<j.ph.length/\(xI j p).ring=r:=by
 unfold XF;split
 ·rename_i h;exact .inr ⟨t,rfl,ht,h.symm⟩
 ·rcases BC j (c.nx.getD r.toNat default) r t with h|⟨p,h1,h2,h3,_⟩
  ·exact .inl h
  ·exact .inr ⟨p,h1,h2,h3⟩
theorem zL0 {j:Jn} (J:JV j) {c:Ct} (C:CV j c) (h0:c.wt=0) {t:Nat} (ht:t<j.ph.length) (r:Int):CV j (cM j t c r)/\(cM j t c r).wt=0:=by
 unfold cM;split
 ·split
  ·exact⟨C,h0⟩
  ·rename_i h
   rcases zLz (j:=j) (c:=c) (r:=r) ht with h1|⟨p,h1,h2,_⟩
   ·exact absurd h1 h
   ·rw[h1,yAc];exact zRq J C h0 h2
 ·exact⟨C,h0⟩
theorem GD {j:Jn} (J:JV j) {c:Ct} (C:CV j c) (h0:c.wt=0) {r:Nat} (hr:r<2):CV j (cN j c r)/\(cN j c r).wt=0:=by
 unfold cN;split
 ·rename_i h;rw[yAc]at h⊢
  rcases C.v r hr with h1|h1
  ·exact absurd h1 h.2
  ·exact zRq J C h0 (by have:=h1.2.1;have:=h1.1;omega)
 ·exact⟨C,h0⟩
theorem zXn {j:Jn} (J:JV j) {c:Ct} (C:CV j c) (h0:c.wt=0):CV j (cyF j c):=by
 have h1:CV j (if cyO c=true then etF j c ((c.gr+1) % UY j)else c)/\(if cyO c=true then etF j c ((c.gr+1) % UY j)else c).wt=0:=by
  split
  ·have:=GC J;exact⟨zLy C ⟨yB4 _ zB,yBu _ zB⟩,h0⟩
  ·exact⟨C,h0⟩
 have h2:=GD J h1.1 h1.2 (r:=0) zB;exact(GD J h2.1 h2.2 (r:=1) zB).1
theorem zYm {p:Ph} {l:Li} {lv:Bool} (hy:1<=p.yel) (hr:0<=p.red) (h:LD p l=true):LD p (lpF p l lv)=true/\((lpF p l lv).lamp≠0->l.lamp≠0):=by
 unfold LD at h;unfold lpF;by_cases h1:l.lamp=1
 ·rw[zYp h1];rw[zYo zB,zYp h1,zYx]at h;split
  ·refine⟨by unfold LD;simp;omega,λ_=>by omega⟩
  ·refine⟨by unfold LD;simp;omega,λ_=>by omega⟩
 by_cases h2:l.lamp=2
 ·rw[zYo h1,zYp h2];rw[zYo zB,zYo h1,zYp h2,zYx]at h;split
  ·refine⟨by unfold LD;simp;omega,λ_=>by omega⟩
  ·split
   ·refine⟨by unfold LD;simp,λh=>absurd rfl h⟩
   ·refine⟨by unfold LD;simp;omega,λ_=>by omega⟩
 by_cases h3:l.lamp=3
 ·rw[zYo h1,zYo h2,zYp h3];rw[zYo zB,zYo h1,zYo h2,zYp h3,zYx]at h;split
  ·refine⟨by unfold LD;simp;omega,λ_=>by omega⟩
  ·refine⟨by unfold LD;simp,λh=>absurd rfl h⟩
 ·rw[zYo h1,zYo h2,zYo h3];exact⟨by unfold LD;exact h,λh=>h⟩
theorem zL1 {j:Jn} {c:Ct} (t gr:Int) (nx:List Int) (wt:Int) (p:Nat) (hp:p<j.ph.length):vI ⟨KR j c t,gr,nx,wt⟩ p=lpF (xI j p) (vI c p) (lvS j c t p):=by
 show(KR j c t).getD p default=_
 unfold KR;simp only[zY0,zYt,zZr hp];rfl
theorem zRr {j:Jn} (J:JV j) {c:Ct} (C:CV j c) (h0:c.wt=0) (t:Int):CV j ⟨KR j c t,c.gr,c.nx,c.wt⟩:=by
 have hs:=λp hp=>zYm (lv:=lvS j c t p) (by have:=J.ti p hp;omega) (by have:=J.ti p hp;omega) (C.k p hp)
 refine⟨by simp[KR],λp hp=>?_,λp q hp hq hpq h1 h2=>?_,C.g,C.m,C.v,C.w,.inl h0⟩
 ·rw[zL1 _ _ _ _ _ hp];exact(hs p hp).1
 ·rw[zL1 _ _ _ _ _ hp]at h1;rw[zL1 _ _ _ _ _ hq]at h2;exact C.x p q hp hq hpq ((hs p hp).2 h1) ((hs q hq).2 h2)
theorem zRs {j:Jn} (J:JV j) {c:Ct} (C:CV j c) (t:Int):CV j (stF j c t):=by
 unfold stF;split
 ·rename_i h;have hz:=C.z;have hw:=C.w;refine⟨C.n,C.k,C.x,C.g,C.m,C.v,by dsimp only;omega,?_⟩
  rcases hz with hz|hz
  ·omega
  ·exact .inr hz
 ·have h0:c.wt=0:=by have:=C.w;omega
  have L:=zRr J C h0 t;split
  ·rename_i h;unfold LE at h;rw[zYx]at h;have h1:=zL0 J L h0 (t:=t.toNat) zB 0;exact(zL0 J h1.1 h1.2 (t:=t.toNat) zB 1).1
  ·exact zXn J L h0
end Av
end Go.Proofs.YtmamjhmoegjapaaGreat
