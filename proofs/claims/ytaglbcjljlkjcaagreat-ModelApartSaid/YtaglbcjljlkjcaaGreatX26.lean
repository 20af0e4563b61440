/- Part 26. -/
import Derived.Test.YtaglbcjljlkjcaaGreatX25
namespace Go.Proofs.YtaglbcjljlkjcaaGreat.Av
open Tryz
set_option linter.all false
set_option maxRecDepth 4000
set_option maxHeartbeats 4000000
open List renaming length->ln,replicate->pb,range->pi,take->py,drop->p5,getD->qd
open Inhabited renaming default->dd
variable {k:Int}{l:List Ag}{ar da:List Int}
def Cs (j:Jn) (h:ln j.ph<=8):zO 79 [wK j] [] (.agg [bA true,bA false,.ref 1021 0 (j.ph.map xN).length,.ref 1022 0 (j.ph.map xN).length]) [(1021,.arr 1 (List.replicate (j.ph.map xN).length (iA 0)) false),(1022,.arr 1 (List.replicate (j.ph.map xN).length (iA 0)) false)]:=by
 have hl:=zA xN j.ph;unfold wK zE;generalize j.ph.map xN=P at *;refine eM call79 λF hF=>?_
 (repeat' (first|refine uT ?_|apply yW|apply xH|intro hc|(apply zG;first|(apply fN;first|refine bG 1021 tok Z Z Z Z Z Z Z Z Z Z Z Z Z zB zB Z Z Z ?_|refine bG 1022 tok Z Z Z Z Z Z Z Z Z Z Z Z Z zB zB Z Z Z ?_))|fail))
 exact zP [1021,1022] Z Z Z Z
def Rr (p:Ph) (l:Li):Int:=if l.lamp=1 then max (Fe p-1-l.tk) 0 else if l.lamp=2 then p.yel-1-l.tk else if l.lamp=3 then p.red-1-l.tk else 0
def Lx (l:Li):Int:=if l.lamp=1\/l.lamp=2 then l.lamp else 0
def fk (p:Ph) (h:Ax p) (l:Li) (B: -1000000000000<=l.tk/\l.tk<=1000000000000) (z: -1000<=Fe p/\Fe p<=1000) (C: -1000<=p.yel/\p.yel<=1000) (A: -1000<=p.red/\p.red<=1000):zO 153 [xN p,xG l] [] (iA (Rr p l)) []:=by
 have c:=De p h;unfold Rr;generalize Fe p=n at *;by_cases h1:l.lamp=1
 .rw[zA5 h1];refine eM call153 λF hF=>?_
  exact ng c
 rw[Os h1];by_cases h2:l.lamp=2
 .rw[zA5 h2];refine eM call153 λF hF=>?_
  exact ly
 rw[Os h2];by_cases u:l.lamp=3
 .rw[zA5 u];refine eM call153 λF hF=>?_
  exact ly
 .rw[Os u];refine eM call153 λF hF=>?_
  exact ly
def KZ (s:Sg) (n i:Nat):List Int:=ZA (λp _=>Lx (xS s.c p)) (pb n 0) i
def HM (j:Jn) (s:Sg) (n i:Nat):List Int:=ZA (λp _=>Rr (yH j p) (xS s.c p)) (pb n 0) i
def QR (j:Jn) (s:Sg) (v:Sv):Vw:=if s.lat=true then Ay (ln j.ph) else⟨false,v.ph != -1,KZ s (ln j.ph) (ln j.ph),HM j s (ln j.ph) (ln j.ph)⟩
def zAd (n:Nat):pb n (iA 0)=(pb n (0:Int)).map iA:=by simp
theorem Uz (j:Jn) (J:JV j) (s:Sg) (C:CV j s.c) (v:Sv):zO 83 [wK j,vG s,wW v] [] (vV (QR j s v)) []:=by
 have k:=Cs j J.n.2;have hl:=zA xN j.ph;have hn:=J.n;have W:(s.c.li.map xG).length=ln j.ph:=by rw[zA6];exact C.n
 unfold QR;rw[zAd]at k;unfold vG wW
 cases O:s.lat with
 |true=>
  rw[zA5 Z];unfold wK at *;refine eM call83 λF hF=>?_
  refine zS k ?_;refine zI [] Z Z ?_ Z
  show AV.agg [bA true,bA false,.sl false (py (j.ph.map xN).length ((pb (j.ph.map xN).length (0:Int)).map iA)),.sl false (py (j.ph.map xN).length ((pb (j.ph.map xN).length (0:Int)).map iA))]=_
  rw[zBf zV,hl];rfl
 | false=>
  rw[Os zBm];have e1:(pb (j.ph.map xN).length (0:Int)).map iA=(KZ s (ln j.ph) 0).map iA:=by unfold KZ;rw[qQ,hl]
  have I:(pb (j.ph.map xN).length (0:Int)).map iA=(HM j s (ln j.ph) 0).map iA:=by unfold HM;rw[qQ,hl]
  have k:zO 79 [wK j] [] (.agg [bA true,bA false,.ref 1021 0 (j.ph.map xN).length,.ref 1022 0 (j.ph.map xN).length]) [(1021,.arr 1 ((KZ s (ln j.ph) 0).map iA) false),(1022,.arr 1 ((HM j s (ln j.ph) 0).map iA) false)]:=by rw[<-e1,<-I];exact k
  clear e1 I;have u:∀i,((KZ s (ln j.ph) i).map iA).length=ln j.ph:=λi=>by rw[zA6];unfold KZ;rw[wP,zC4]
  have z:∀i,((HM j s (ln j.ph) i).map iA).length=ln j.ph:=λi=>by rw[zA6];unfold HM;rw[wP,zC4]
  have L:∀i,i<ln j.ph->(KZ s (ln j.ph) (i+1)).map iA=((KZ s (ln j.ph) i).map iA).set i (iA (Lx (xS s.c i))):=λi hi=>by unfold KZ;rw[vO _ _ _ _ (by rw[zC4];exact hi)]
  have M:∀i,i<ln j.ph->(HM j s (ln j.ph) (i+1)).map iA=((HM j s (ln j.ph) i).map iA).set i (iA (Rr (yH j i) (xS s.c i))):=λi hi=>by unfold HM;rw[vO _ _ _ _ (by rw[zC4];exact hi)]
  unfold wK zE at *;refine eM call83 λF hF=>?_
  refine zS k ?_;refine zN ((j.ph.map xN).length) [1021,1022,4,6,7] [4,6,7] [4,6,7,22,23] [24,4,6,7,22,23] Z (λi T U=>⟨(24,iA i)::T,(1021,.arr 1 ((KZ s (ln j.ph) i).map iA) false)::(1022,.arr 1 ((HM j s (ln j.ph) i).map iA) false)::U⟩) (Lq ?_ ?_)
  .intro i hi;have hi':i<ln j.ph:=by omega
   have hy:(j.ph.map xN)[i]? =some (xN (yH j i)):=zJ xN j.ph i hi';have hz:(s.c.li.map xG)[i]? =some (xG (xS s.c i)):=zJ xG s.c.li i (by have:=C.n;omega);have ht:=J.ti i hi';have hv:=C.k i hi';have Y:=u i;have x2:=z i;have S:=L i hi';have V:=M i hi'
   have E: -1000000000000<=(xS s.c i).tk/\(xS s.c i).tk<=1000000000000:=by
    unfold mb at hv
    repeat' split at hv
    all_goals (first|(rw[zBc]at hv;omega)|cases hv)
   have G:=fk (yH j i) ⟨zB,zB,zB,zB⟩ (xS s.c i) E (by unfold Fe;omega) zB zB;rw[S,V];have a1:((KZ s (ln j.ph) i).map iA)[i]? =some (iA ((KZ s (ln j.ph) i).getD i dd)):=zJ iA _ i (by rw[zA6]at Y;omega);have a2:(((KZ s (ln j.ph) i).map iA).set i (iA 0))[i]? =some (iA 0):=by rw[zD5,zA5 Z,zA5 zB]
   have a3:((HM j s (ln j.ph) i).map iA)[i]? =some (iA ((HM j s (ln j.ph) i).getD i dd)):=zJ iA _ i (by rw[zA6]at x2;omega);clear S V L M u z k;generalize (KZ s (ln j.ph) i).getD i dd=v1,(HM j s (ln j.ph) i).getD i dd=v2,Rr (yH j i) (xS s.c i)=cc,(KZ s (ln j.ph) i).map iA=A,(HM j s (ln j.ph) i).map iA=B at *;generalize yH j i=p at *;unfold Lx;generalize xS s.c i=l at *;obtain⟨R,tk⟩:=l;dsimp only at *;by_cases h1:R=1
   .rw[zA5 (.inl h1),<-zFj (a:=iA 0)];refine zS G ?_;rfl
   by_cases h2:R=2
   .rw[zA5 (.inr h2),<-zFj (a:=iA 0)];refine zS G ?_;rfl
   .rw[Os (λh=>h.elim h1 h2)];refine zS G ?_;rfl
  ·(refine WW ?_)
   refine zI [] Z Z ?_ Z
   show AV.agg [bA false,bA (v.ph != -1),.sl false (py (j.ph.map xN).length ((KZ s (ln j.ph) (j.ph.map xN).length).map iA)),.sl false (py (j.ph.map xN).length ((HM j s (ln j.ph) (j.ph.map xN).length).map iA))]=_
   rw[zBf (by rw[u];omega),zBf (by rw[z];omega),hl];rfl
theorem Kx (j:Jn) (J:JV j) (s:Sg) (v:Sv):Ua (QR j s v):=by
 have u:=J.n.2;unfold QR;split
 .exact m8 u
 .refine⟨by show(KZ _ _ _).length<=8;unfold KZ;rw[wP,zC4];exact u,by show(HM _ _ _ _).length<=8;unfold HM;rw[wP,zC4];exact u,λx z=>?_⟩;obtain⟨i,hi,rfl⟩:=zDn z;have h1:=vY (λp (_:Int)=>Lx (xS s.c p)) (pb (ln j.ph) 0) (ln j.ph) i
  grind [QR,KZ,List.getElem?_eq_getElem,wP,Lx,List.length_replicate]
def uA (n:Int):AV:= .s (.int .u32 n)
def yh (a b:Int):Int:=IntKind.u32.wrap (BitVec.ofInt IntKind.u32.bits a ^^^ BitVec.ofInt IntKind.u32.bits b).toNat
def Tz (a b:Int):Int:=IntKind.u32.wrap (BitVec.ofInt IntKind.u32.bits a &&& BitVec.ofInt IntKind.u32.bits b).toNat
def Qr (a b:Int):Int:=IntKind.u32.wrap (BitVec.ofInt IntKind.u32.bits a ||| BitVec.ofInt IntKind.u32.bits b).toNat
def d7 (a:Int) (n:Nat):Int:=a.fdiv (2 ^ (min n IntKind.u32.bits))
def crS (r:Int):Int:=if Tz r 1=1 then yh (d7 r 1) 3988292384 else d7 r 1
def W6 (r:Int):Nat->Int
 |0=>r
 |i+1=>crS (W6 r i)
def crB (r x:Int):Int:=W6 (yh r x) 8
def Sz (r:Int) (l:List Int):Int:=l.foldl crB r
def QS (l:List Int):Int:=FA .u32 (Sz (FA .u32 0) l)
def ak (r:Int) (l:List Int) (x:Int):Sz r (l++[x])=crB (Sz r l) x:=by simp[Sz]
section
variable {P:Program} {tm:List (Nat×AV)} {h:List (Nat×xV)} {tx ty:Nat} {x y:Operand} {m n:Int}
def DP (u:yX (zK tm) x= .s (.int .u32 m)) (z:yX (zK tm) y= .s (.int .u32 n)):vA P ⟨tm,h⟩ (.binOp .and tx x y ty) (.s (.int .u32 (Tz m n))) [] [] []:=OC u z
def PO (u:yX (zK tm) x= .s (.int .u32 m)) (z:yX (zK tm) y= .s (.int .u32 n)):vA P ⟨tm,h⟩ (.binOp .or tx x y ty) (.s (.int .u32 (Qr m n))) [] [] []:=FC u z
end
def Bs (r:Int) (l:List Int) (hl:ln l<=1000000) (hb:BY l):zO 301 [uA r,zE yA l] [] (uA (FA .u32 (Sz (FA .u32 r) l))) []:=by
 have E:=zA yA l;refine eM call301 λF hF=>?_
 (repeat' (first|refine uT ?_|apply yW|apply xH|intro hc|(apply zG;first|(apply wn;refine wJ (Rf Z) Z ?_))|fail))
 generalize FA .u32 r=B at *;refine zU (l) [] [] [11,12] [5,13,11,12] Z (λi f4 T U=>⟨(5,uA (Sz B f4))::(13,iA i)::T,U⟩) (Lq ?_ ?_)
 .intro i f4 x post u hi;have I:=yG yA u hi;have G:=zW u hi;have C:=hb x (yY u);rw[ak];clear u;generalize Sz B f4=q at *;refine WW ?_;refine zN (8) [] [] [11,12,13] [5,21,11,12,13] Z (λi T U=>⟨(5,uA (W6 (yh q x) i))::(21,iA i)::T,U⟩) (Lq ?_ ?_)
  .intro k hk;have e:W6 (yh q x) (k+1)=crS (W6 (yh q x) k):=rfl;rw[e];generalize W6 (yh q x) k=z at *;unfold crS;by_cases A:Tz z 1=1
   .rw[zA5 A]
    (repeat' (first|refine uT ?_|apply yW|apply xH|intro hc|(apply zG;first|(apply wT;refine wJ (DP Z Z) Z ?_))|fail))
    rfl
   .rw[Os A]
    (repeat' (first|refine uT ?_|apply yW|apply xH|intro hc|(apply zG;first|(apply wT;refine wJ (DP Z Z) Z ?_))|fail))
    rfl
  ·(refine WW ?_)
   rfl
 ·(repeat' (first|refine uT ?_|apply yW|apply xH|intro hc|(apply zG;first|(apply wn;refine wJ (Rf Z) Z ?_))|fail))
  exact zH
def Nb (l:List Int) (hl:ln l<=1000000) (hb:BY l):zO 261 [zE yA l] [] (uA (QS l)) []:=by
 have c:=Bs 0 l hl hb;refine eM call261 λF hF=>?_
 exact ng c
def nk (l:List Int):0<=QS l/\QS l<4294967296:=by
 unfold QS FA IntKind.wrap;simp[IntKind.signed,IntKind.bits];omega
def xh (l:List Int):Int:=l.foldl (λn x=>Qr (IntKind.u32.wrap (n*2 ^ (min (8:Int).toNat IntKind.u32.bits))) x) 0
def Jx (s:Int):List Int:=(pi 4).map λi:Nat=>IntKind.u8.wrap (s.fdiv (2 ^ (min (8*(3-(i:Int))).toNat IntKind.u32.bits)))
def HN (k:Int) (n:Nat):List Int:=[1,k,0,(n:Int)]
def Mb (k:Int) (p:List Int):List Int:=90::165::(HN k (ln p)++p)++Jx (QS (HN k (ln p)++p))
section
variable {P:Program} {TT:List TI} {K0:List Nat} {F:Fr K0} {m:Nat} {ops:Array Oper} {rest:List Oper} {Q:List FP->St->Prop} {tm:List (Nat×AV)} {h:List (Nat×xV)} {dr:Bool} {fs:List FP} {ty:Nat} {pos:String} {after:Array Edge} {t:Nat}
end
theorem p7 {p:List Int} (z:0<=k) (A:k<=255) (hb:BY p) (u:ln p<=200):BY (HN k (ln p)++p):=by grind [BY,HN]
def Rz (k:Int) (p:List Int) (z:0<=k) (A:k<=255) (hb:BY p) (u:ln p<=200):JT [iA k,zE yA p] [] (.tup [zE yA (Mb k p),iA 0]) []:=Sm
def Qz (y:Int):0<=IntKind.u8.wrap y/\IntKind.u8.wrap y<256:=by
 unfold IntKind.wrap;simp[IntKind.signed,IntKind.bits];omega
def Ix (s:Int):List Int:=[IntKind.u8.wrap (s.fdiv (2 ^ (min (24:Int).toNat IntKind.u32.bits))),IntKind.u8.wrap (s.fdiv (2 ^ (min (16:Int).toNat IntKind.u32.bits))),IntKind.u8.wrap (s.fdiv (2 ^ (min (8:Int).toNat IntKind.u32.bits))),IntKind.u8.wrap s]
def Xe (k:Int) (p:List Int) (I:0<=k) (L:k<=255) (hb:BY p) (G:ln p<=200):∃q,q=90::165::(HN k (ln p)++p)++Ix (QS (HN k (ln p)++p))/\BY q/\q.length=ln p+10/\zO 215 [iA k,zE yA p] [] (.tup [.ref 1031 0 (q.map yA).length,iA 0]) [(1031,.arr 1 (q.map yA) true)]:=by
 have E:=zA yA p;have hh:∀y,(p.map yA)[0]? =some y->ln y.cells=1:=yM _ _ (λ_=>rfl)
 have B:IntKind.u8.wrap (vX (((p.map yA).length:Nat):Int) 8)=0:=by
  have:vX (((p.map yA).length:Nat):Int) 8=0:=by
   unfold vX;rw[zA6,zDd _ xA]
   show(ln p:Int)/256=0
   omega
  rw[this];rfl
 have z:=p7 I L hb G;have A:=Nb (HN k (ln p)++p) (by unfold HN;simp;omega) z
 have A:zO 261 [.sl false ((([AV.s (.int .u8 90),.s (.int .u8 165),.s (.int .u8 1),.s (.int .u8 k),.s (.int .u8 (IntKind.u8.wrap (vX (((p.map yA).length:Nat):Int) 8))),.s (.int .u8 (((p.map yA).length:Nat):Int))]++p.map yA).drop 2).take (([AV.s (.int .u8 90),.s (.int .u8 165),.s (.int .u8 1),.s (.int .u8 k),.s (.int .u8 (IntKind.u8.wrap (vX (((p.map yA).length:Nat):Int) 8))),.s (.int .u8 (((p.map yA).length:Nat):Int))]++p.map yA).length-2))] [] (uA (QS (HN k (ln p)++p))) []:=by
  rw[B,zA6];rw[zBf zV];exact A
 generalize QS (HN k (ln p)++p)=s at *;refine⟨90::165::(HN k (ln p)++p)++Ix s,rfl,?_,?_,?_⟩
 .intro x u
  rcases zBs.1 u with u|u
  .simp only[zCt]at u
   rcases u with rfl|rfl|u
   .omega
   .omega
   .exact z x u
  .simp only[Ix,zCt,List.not_mem_nil,or_false]at u
   rcases u with rfl|rfl|rfl|rfl<;>exact Qz _
 .simp[HN,Ix]
 have C:(90::165::(HN k (ln p)++p)++Ix s).map yA=([AV.s (.int .u8 90),.s (.int .u8 165),.s (.int .u8 1),.s (.int .u8 k),.s (.int .u8 (IntKind.u8.wrap (vX (((p.map yA).length:Nat):Int) 8))),.s (.int .u8 (((p.map yA).length:Nat):Int))]++p.map yA)++[.s (.int .u8 (IntKind.u8.wrap (s.fdiv (2 ^ (min (24:Int).toNat IntKind.u32.bits))))),.s (.int .u8 (IntKind.u8.wrap (s.fdiv (2 ^ (min (16:Int).toNat IntKind.u32.bits))))),.s (.int .u8 (IntKind.u8.wrap (s.fdiv (2 ^ (min (8:Int).toNat IntKind.u32.bits))))),.s (.int .u8 (IntKind.u8.wrap s))]:=by
  rw[B,zA6];simp only[HN,Ix,zBd,zCo,zCy,zEl,zEf,zBy];rfl
 rw[C];refine eM call215 λF hF=>?_
 (have ga:=A;(repeat' (first|refine jX ?_|apply yW|apply xH|intro hc|(apply zG;first|(apply yI;first|refine qA (nw:=[1031]) (yV tok 1031 (xs:=[_,_,_,_,_,_]) Z Z Z Z Z Z Z Z Z) Z Z Z ?_|refine vD tok Z Z ?_)|(apply gU;refine dM tok Z Z Z Z Z Z Z zB (by simp<;>omega) Z ?_))|refine SB ?_|fail))<;>clear ga)
 exact zP [1031] Z Z Z Z
def rk (m:Ms) (h:B4 m):∃q,BY q/\q.length<=210/\zO 162 [zX m] [] (.tup [.ref 1031 0 (q.map yA).length,iA 0]) [(1031,.arr 1 (q.map yA) true)]:=by
 obtain⟨p,h1,h2,u⟩:=tq m h;have hk:=h.k;obtain⟨q,_,q1,A,z⟩:=Xe m.kind p zB zB h1 h2;refine⟨q,q1,zB,?_⟩;unfold zX at *;refine eM call162 λF hF=>?_
 refine yJ (xW u z) ?_;exact zP [1031] Z Z Z Z
def DQ (m:Ms) (h:B4 m):∃q,BY q/\q.length<=210/\zO 95 [zX m] [] (.ref 1031 0 (q.map yA).length) [(1031,.arr 1 (q.map yA) true)]/\zO 95 [zX m] [] (zE yA q) []:=by
 obtain⟨q,q1,z,u⟩:=rk m h;refine⟨q,q1,z,?_,?_⟩
 .unfold zX at *;refine eM call95 λF hF=>?_
  refine zS u ?_;exact zP [1031] Z Z Z Z
 .unfold zX at *;refine eM call95 λF hF=>?_
  refine zS u ?_;exact zI [] Z Z (zBq (AV.sl false) zA8) Z
def DS (m:Ms) (h:B4 m):∃q,BY q/\q.length<=210/\zO 95 [zX m] [] (zE yA q) []:=by
 obtain⟨q,q1,z,_,u⟩:=DQ m h;exact⟨q,q1,z,u⟩
def uF (l:List Ag):Nat->Int
 |0=>0
 |i+1=>uF l i+(l.getD i dd).ses
def QT (l:List Ag):Prop:=ln l<=4/\∀a∈l,1<=a.ses/\a.ses<=2
theorem QT.at (h:QT l) {i:Nat} (hi:i<ln l):1<=(l.getD i dd).ses/\(l.getD i dd).ses<=2:=by grind [QT]
theorem vT (h:QT l):∀i,i<=ln l->(i:Int)<=uF l i/\uF l i<=2*i
 |0,_=>⟨zDg _,zDg _⟩
 |i+1,hi=>by
  have h1:=vT h i zB;have h2:=h.at (i:=i) zB;unfold uF;omega
def zt (c:Cf) (h:QT c.ags):zO 93 [wD c] [] (iA (uF c.ags (ln c.ags))) []:=by
 have u:=zA vP c.ags;have A:=h.1;unfold wD zE;refine eM call93 λF hF=>?_
 refine WW ?_;refine zN ((c.ags.map vP).length) [] [] [7,8] [3,9,7,8] Z (λi T U=>⟨(3,iA (uF c.ags i))::(9,iA i)::T,U⟩) (Lq ?_ ?_)
 .intro i hi;have B:=zJ vP c.ags i zB;have h2:=h.at (i:=i) zB;have hb:=vT h i zB;rw[show uF c.ags (i+1)=uF c.ags i+(c.ags.getD i dd).ses from Z];generalize uF c.ags i=z,c.ags.getD i dd=a at *;refine WW ?_;rfl
 .rw[u];exact ly
def zb (l:List Ag) (g:Int):Nat->Int
 |0=>0
 |i+1=>if(i:Int)<g then zb l g i+(l.getD i dd).ses else zb l g i
theorem Lb (h:QT l) (g:Int):∀i,i<=ln l->0<=zb l g i/\zb l g i<=2*i
 |0,_=>⟨zDg _,zDg _⟩
 |i+1,hi=>by
  have h1:=Lb h g i zB;have h2:=h.at (i:=i) zB;unfold zb
  split<;>omega
def yt (c:Cf) (h:QT c.ags) (g:Int):zO 94 [wD c,iA g] [] (iA (zb c.ags g (ln c.ags))) []:=by
 have u:=zA vP c.ags;have B:=h.1;unfold wD zE;refine eM call94 λF hF=>?_
 refine WW ?_;refine zN ((c.ags.map vP).length) [] [] [1,9,10] [5,11,1,9,10] Z (λi T U=>⟨(5,iA (zb c.ags g i))::(11,iA i)::T,U⟩) (Lq ?_ ?_)
 .intro i hi;have C:=zJ vP c.ags i zB;have h2:=h.at (i:=i) zB;have hb:=Lb h g i zB;by_cases A:(i:Int)<g
  .rw[show zb c.ags g (i+1)=zb c.ags g i+(c.ags.getD i dd).ses from zA5 A];generalize zb c.ags g i=z,c.ags.getD i dd=a at *;refine WW ?_;rfl
  .rw[show zb c.ags g (i+1)=zb c.ags g i from Os A];generalize zb c.ags g i=z,c.ags.getD i dd=a at *;refine WW ?_;rfl
 .rw[u];exact ly
def HO:List Ag->Int->Nat->Option (Nat×Int)
 | [],_,_=>none
 |a::l,s,i=>if s<a.ses then some (i,s)else HO l (s-a.ses) (i+1)
theorem xt (l:List Ag) (s:Int) (i:Nat) (h:i<ln l):HO (l.drop i) s i=if s<(l.getD i dd).ses then some (i,s)else HO (l.drop (i+1)) (s-(l.getD i dd).ses) (i+1):=by grind [HO,List.getD,List.getElem_cons_drop]
def Kb (l:List Ag) (s:Int):Int:=match HO l s 0 with
 |some p=>p.1
 |none=>0
theorem We:∀(l:List Ag) (s:Int) (i:Nat) (p:Nat×Int),HO l s i=some p->p.1<i+ln l
 | [],_,_,_,h=>by cases h
 |a::l,s,i,p,h=>by
  unfold HO at h;split at h
  .cases h;simp only[zBl];omega
  .have:=We l _ _ p h;simp only[zBl];omega
def Pz (h:QT l) (s:Int):0<=Kb l s/\Kb l s<4:=by
 unfold Kb;split
 .rename_i p u;have:=We l s 0 p u;have:=h.1;omega
 .omega
def sk (c:Cf) (h:QT c.ags) (s:Int) (I: -1000<=s) (L:s<=1000):zO 97 [wD c,iA s] [] (iA (Kb c.ags s)) []:=by
 have u:=zA vP c.ags;have E:=h.1;unfold Kb wD zE;refine eM call97 λF hF=>?_
 refine WW ?_;refine yU ((c.ags.map vP).length) [] [] [8,9] [1,10,8,9] Z (λi T U B=>∃(z:Int),(HO c.ags s 0=HO (c.ags.drop i) z i/\ -1000-2*(i:Int)<=z/\z<=1000)/\B=⟨(1,iA z)::(10,iA i)::T,U⟩) (Lp ?_ ?_ ?_)
 .exact⟨s,⟨rfl,zB,zB⟩,rfl⟩
 .rintro i st hi ⟨z,⟨hz,z0,z1⟩,rfl⟩;have G:=zJ vP c.ags i zB;have h2:=h.at (i:=i) zB;rw[xt c.ags z i zB]at hz;generalize C:c.ags.drop (i+1)=D at *;generalize c.ags.getD i dd=a at *;by_cases A:z<a.ses
  .rw[zA5 A]at hz;rw[hz];exact ly
  .rw[Os A]at hz;refine WW ?_;exact⟨_,⟨hz,zB,zB⟩,rfl⟩
 .rintro st ⟨z,⟨hz,z0,z1⟩,rfl⟩;rw[u,zFa]at hz;rw[hz];exact ly
structure ub (e:Ev):Prop where
 k:1<=e.k/\e.k<=6
 s:0<=e.s/\e.s<=100
 a:0<=e.a/\e.a<=100
 b:0<=e.b/\e.b<=100
 y:BY e.y
 n:e.y.length<=1000
def nj {s a b:Int} {y:List Int} (hk:1<=k/\k<=6) (A:0<=s/\s<=100) (u:0<=a/\a<=100) (hb:0<=b/\b<=100) (B:BY y) (z:ln y<=1000):ub ⟨k,s,a,b,y⟩:=⟨hk,A,u,hb,B,z⟩
def jT:BY []:=λx u=>by cases u
theorem Oz (c:Cf) (s:Int) (s0:0<=s) (s1:s<=100) (M:Bool) (d:Dk):∃(e:Ev) (O:Dk),ub e/\rem O<=rem d/\zO 96 [.ptr 1000 0 0,wD c,iA s,bA M] [(1000,fI d)] (hH e) [(1000,fI O)]:=by
 have A:=yS d 6 zB zB;have Y:=yQ d 6 zB;have I:=vH d;generalize nx d 6=k,ad d=u at *;unfold hH zE;by_cases h0:k=0
 .refine⟨⟨2,s,0,0,[]⟩,u,nj zB zB zB zB jT zV,I,?_⟩;refine eM call96 λF hF=>?_
  refine zS A ?_;exact zI [1000] Z Z Z Z
 by_cases h1:k=1
 .refine⟨⟨1,s,0,0,[]⟩,u,nj zB zB zB zB jT zV,I,?_⟩;refine eM call96 λF hF=>?_
  refine zS A ?_;exact zI [1000] Z Z Z Z
 by_cases h2:k=2
 .have B:=yS u 4 zB zB;have C:=yQ u 4 zB;have L:=vH u;have G:=yS (ad u) 50 zB zB;have R:=yQ (ad u) 50 zB;have W:=vH (ad u);have U:=cA (nx (ad u) 50);refine⟨⟨4,0,nx u 4,0,cQ (nx (ad u) 50)⟩,ad (ad u),nj zB zB zB zB (OG _) (by rw[fA];omega),zB,?_⟩;generalize nx (ad u) 50=q at *;generalize nx u 4=p at *;generalize cQ q=y at *;refine eM call96 λF hF=>?_
  refine yJ (cM A B G U) ?_;exact zI [1000] Z Z Z Z
 cases M with
 |true=>
  refine⟨⟨6,0,0,0,[]⟩,u,nj zB zB zB zB jT zV,I,?_⟩;refine eM call96 λF hF=>?_
  refine zS A ?_;exact zI [1000] Z Z Z Z
 |false=>
 by_cases h3:k=3
 .have B:=yS u 3 zB zB;have C:=yQ u 3 zB;have L:=vH u;have G:=yS (ad u) 9 zB zB;have R:=yQ (ad u) 9 zB;have W:=vH (ad u);refine⟨⟨5,0,nx u 3,nx (ad u) 9,[]⟩,ad (ad u),nj zB zB zB zB jT zV,zB,?_⟩;generalize nx (ad u) 9=q at *;generalize nx u 3=p at *;refine eM call96 λF hF=>?_
  refine yJ (qM A B G) ?_;exact zI [1000] Z Z Z Z
 by_cases h4:k=4
 .have B:=yS u 120 zB zB;have C:=yQ u 120 zB;have L:=vH u;refine⟨⟨3,s,0,0,pb (150+nx u 120).toNat 0⟩,ad u,nj zB zB zB zB (λx S=>by have:=(zE2.1 S).2;omega) (by rw[zC4];omega),zB,?_⟩;generalize nx u 120=q at *;refine eM call96 λF hF=>?_
  have E:150+q=(((150+q).toNat:Nat):Int):=by omega
  (have ga:=A;have ge:=B;(repeat' (first|refine uT ?_|apply yW|apply xH|intro hc|(apply zG;first|(apply fN;refine Tf tok Z Z Z Z Z Z Z Z Z Z Z Z E zB zB Z Z Z ?_))|fail))<;>clear ga ge)
  have e:py (150+q).toNat (p5 0 (pb (150+q).toNat (yA 0)))=(pb (150+q).toNat 0).map yA:=by rw[zBr,zBf zV,zEu]
  exact zI [1000] Z Z (zBq (λz=>AV.agg [iA 3,iA s,iA 0,iA 0,.sl false z]) e) Z
 .have B:=oq u 9 zB zB;have C:=yQ u (9+1) zB;obtain⟨p1,p2,V⟩:=ue (ad u) (nx u (9+1)).toNat;have L:=vH u;refine⟨⟨3,s,0,0,(eX (ad u) (nx u (9+1)).toNat).1⟩,(eX (ad u) (nx u (9+1)).toNat).2,nj zB zB zB zB V zB,zB,?_⟩;generalize (eX (ad u) (nx u (9+1)).toNat).1=y at *;generalize (eX (ad u) (nx u (9+1)).toNat).2=d2 at *;refine eM call96 λF hF=>?_
  refine yJ (xW A B) ?_;exact zI [1000] Z Z Z Z
def JC (l:List Ev) (n:Nat):Prop:=ln l<=n/\∀e∈l,ub e
theorem JC.nil:JC [] 0:=⟨zBb _,λe h=>by cases h⟩
theorem JC.app {l:List Ev} {n:Nat} (h:JC l n) {e:Ev} (z:ub e):JC (l++[e]) (n+1):=
 ⟨by have:=h.1;rw[zBa,zDb];omega,λx u=>(zBs.1 u).elim (h.2 x) λu=>by rw[zB1.1 u];exact z⟩
theorem JC.le {l:List Ev} {n m:Nat} (h:JC l n) (u:n<=m):JC l m:=⟨zCa h.1 u,h.2⟩
def Nz (g v:Int) (u:0<=g/\g<256) (hv:0<=v/\v<=100):B4 ⟨4,g::0::cQ (1000+g),[v,v.tmod 2],[]⟩:=by
 have h1:=zGr 2 hv.1;have h2:v.tmod 2<2:=zGb v zB;exact⟨vo u zB (OG _),by simp[fA],by dsimp only;omega,.cons zB (.cons zB .nil),⟨0,zB,λh=>absurd Z h,rfl⟩,rfl⟩
structure qb (c:Cf):Prop where
 j:1<=c.js.length/\c.js.length<=4
 jv:∀j∈c.js,JV j
 a:1<=c.ags.length/\c.ags.length<=4
 av:∀a∈c.ags,Sy a
 p:1<=c.per/\c.per<=600
 cp:0<=c.cap/\c.cap<=100
 h:1<=c.hold/\c.hold<=60
 l:0<=c.lock/\c.lock<=600
theorem qb.w {c:Cf} (h:qb c):IY c:=⟨h.j.2,λj hj=>(h.jv j hj).n⟩
theorem qb.ag {c:Cf} (h:qb c):QT c.ags:=⟨h.a.2,λa u=>(h.av a u).e⟩
def o7 (d:Dk) (r:Int) (z:0<=r/\r<=63):qb (IX d r):=by
 have C:=l8 d r;have h1:=yQ d (4-1+1) zB;have h2:=yQ (ad d) 4 zB;have A:=yQ (ad (ad d)) (3-1+1) zB;have B:=yQ (ad (ad (ad d))) 5 zB;refine⟨zB,λj hj=>?_,zB,λa u=>?_,?_,?_,?_,?_⟩
 .rw[jq]at hj;obtain⟨e,rfl⟩:=Yg _ _ j hj;exact N0 e
 .obtain⟨i,hi,rfl⟩:=zDn u;have:=(Z5 d r z (i:Int) zB zB).1.v;rw[show(i:Int).toNat=i from Z]at this;rw[show(IX d r).ags[i]=(IX d r).ags.getD i dd by simp[qd,hi]];exact this
 all_goals (unfold IX;dsimp only;omega)
def OZ (c:Cf) (i:Nat):List wE:=(pi i).map λk:Nat=>PJ (k:Int) (c.ags.getD k dd) (c.ags.getD k dd).ses.toNat
def HP (j:Jn):Sv:=bh (ln j.ph)
def WJ (c:Cf):Cy:=⟨c,false,0,OZ c (ln c.ags),c.js.map fM,c.js.map HP,c.js.map λ_=> -1,c.js.map λj=>QR j (fM j) (HP j)⟩
def Mz (j:Int) (x:Lg):zO 160 [yO x,.ptr 5 0 0] [(5,.box [iA j])] (bA (x.jn==j)) [(5,.box [iA j])]:=by
 refine eM call160 λF hF=>?_
 refine WW ?_;exact zP [5] Z Z Z Z
def Lz (j:Int) (l:List Lg) (hb:ln l<=1000):zO 159 [zE yO l,.fn 160 [.ptr 5 0 0]] [(5,.box [iA j])] (iA (TN (λr:Lg=>r.jn==j) l)) [(5,.box [iA j])]:=by
 have hl:=zA yO l;refine eM call159 λF hF=>?_
 refine WW ?_;refine uZ (l) [5] [5] [0,1,7] [8,0,1,7] Z (λi f4 T U E=>(∀y∈f4,(y.jn==j)=false)/\E=⟨(8,iA i)::T,U⟩) (Lp ?_ ?_ ?_)
 .exact⟨by simp,rfl⟩
 .rintro i f4 x post st z hi ⟨hp,rfl⟩;have A:=yG yO z hi;have C:=zW z hi;have c:=Mz j x;have u:=OI (p:=λr:Lg=>r.jn==j) z hp
  cases B:(x.jn==j)<;>rw[B]at c
  .clear z u;refine zS c ?_;exact⟨λy A=>by simp only[zBs,zB1]at A;rcases A with A|rfl;exact hp y A;exact B,rfl⟩
  .rw[u B,hi];clear z u;refine zS c ?_;exact zP [5] Z Z Z Z
 .rintro st ⟨hp,rfl⟩;rw[bX hp];refine WW ?_;exact zP [5] rfl rfl rfl rfl
def NA (u j:Int) (x:Rq):List Cl:=if TN (λr:Lg=>r.jn==j) x.legs<0 then []else if(x.legs.getD (TN (λr:Lg=>r.jn==j) x.legs).toNat dd).sc= -1 then []else [⟨u,x.id,(x.legs.getD (TN (λr:Lg=>r.jn==j) x.legs).toNat dd).ph,x.cls,(x.legs.getD (TN (λr:Lg=>r.jn==j) x.legs).toNat dd).sc⟩]
def fK (u j:Int) (l:List Rq):List Cl:=(l.map (NA u j)).flatten
theorem ik (u j:Int) (x:Rq):(NA u j x).length<=1:=by grind [NA]
def JD (u j:Int) (l:List Rq) (x:Rq):fK u j (l++[x])=fK u j l++NA u j x:=by simp[fK]
theorem dX (u j:Int):∀l:List Rq,(fK u j l).length<=ln l
 | []=>zBb _
 |x::l=>by
  have h1:=ik u j x;have h2:=dX u j l;have e:fK u j (x::l)=NA u j x++fK u j l:=rfl;rw[e,zBa,zBl];omega
def wh (l:List Rq) (u j:Int) (S:ln l<=1000) (hb:∀r∈l,ln r.legs<=1000):zO 89 [zE zY l,iA u,iA j] [] (zE qZ (fK u j l)) []:=by
 have hl:=zA zY l;refine eM call89 λF hF=>?_
 refine WW ?_;refine zQ 7 1001 5 Z Z Z ?_;refine zU (l) [1001,5] [5] [1,5,12,13] [7,14,1,5,12,13] Z (λi f4 T U=>⟨(7,.ref 1001 0 ((fK u j f4).map qZ).length)::(14,iA i)::T,(1001,.arr 5 ((fK u j f4).map qZ) true)::U⟩) (Lq ?_ ?_)
 .intro i f4 x post A hi;have W:=yG zY A hi;have I:=zW A hi;have B:=Lz j x.legs (hb x (yY A));have V:=dX u j f4;have M:((fK u j f4).map qZ).length=(fK u j f4).length:=zA6 ..;have L:ln f4<=ln l:=by rw[A];simp
  have O:(x.legs.map yO).length=ln x.legs:=zA6 ..;rw[JD,zBd]
  have G: -1<=TN (λr:Lg=>r.jn==j) x.legs/\(0<=TN (λr:Lg=>r.jn==j) x.legs->TN (λr:Lg=>r.jn==j) x.legs<ln x.legs):=by
   cases E:x.legs.any (λr:Lg=>r.jn==j)with
   |true=>have:=Wd E;omega
   |false=>rw[TN,E,Os zBm];omega
  unfold NA;clear A;generalize (fK u j f4).map qZ=X at *;by_cases C:TN (λr:Lg=>r.jn==j) x.legs<0
  .rw[zA5 C,zCy,zB0];generalize TN (λr:Lg=>r.jn==j) x.legs=z at *;refine zS B ?_;rfl
  .rw[Os C];have R:=yF yO x.legs (TN (λr:Lg=>r.jn==j) x.legs) zB zB;generalize TN (λr:Lg=>r.jn==j) x.legs=z at *;generalize x.legs.getD z.toNat dd=g at *;by_cases h1:g.sc= -1
   .rw[zA5 h1,zCy,zB0];refine zS B ?_;rfl
   .rw[Os h1];refine zS B ?_;rfl
 ·(refine WW ?_)
  exact zI [] Z Z (zBq (AV.sl false) zA8) Z
def jI (j:Int) (l:List wE):List Cl:=(l.map λd=>fK d.rg.num j d.rq).flatten
def JE (j:Int) (l:List wE) (d:wE):jI j (l++[d])=jI j l++fK d.rg.num j d.rq:=by simp[jI]
theorem NB (j:Int):∀l:List wE,(∀d∈l,ln d.rq<=1000)->(jI j l).length<=1000*ln l
 | [],_=>zBb _
 |d::l,h=>by
  have h1:=dX d.rg.num j d.rq;have h2:=NB j l (λx u=>h x (by simp[u]));have z:=h d zV;have e:jI j (d::l)=fK d.rg.num j d.rq++jI j l:=rfl;rw[e,zBa,zBl];omega
def uh (c:Cf) (W:Bool) (f3:Int) (u:List wE) (j:Int) (hd:ln u<=1000) (hb:∀d∈u,dH d) (A B C D:List AV) (a b e f:Nat):
  zO 38 [ZB c W f3 (zE zM u) (.ref 1012 0 a) (.ref 1013 0 b) (.ref 1014 0 e) (.ref 1015 0 f),iA j] [(1012,.arr 5 A false),(1013,.arr 3 B false),(1014,.arr 1 C false),(1015,.arr 4 D false)] (zE qZ (jI j u)) [(1012,.arr 5 A false),(1013,.arr 3 B false),(1014,.arr 1 C false),(1015,.arr 4 D false)]:=by
 have hl:=zA zM u;unfold ZB;refine eM call38 λF hF=>?_
 refine WW ?_;refine zQ 5 1001 5 Z Z Z ?_;refine zU (u) [1001,1012,1013,1014,1015] [1012,1013,1014,1015] [1,9,10] [5,11,1,9,10] Z (λi f4 T U=>⟨(5,.ref 1001 0 ((jI j f4).map qZ).length)::(11,iA i)::T,(1001,.arr 5 ((jI j f4).map qZ) true)::U⟩) (Lq ?_ ?_)
 .intro i f4 x post E hi;have V:=yG zM E hi;have I:=zW E hi;have z:=hb x (yY E);have G:=wh x.rq x.rg.num j z.q z.g;have hq:=NB j f4 (λd hd=>(hb d (by rw[E];simp[hd])).q);have R:((jI j f4).map qZ).length=(jI j f4).length:=zA6 ..;have M:=dX x.rg.num j x.rq;have O:((fK x.rg.num j x.rq).map qZ).length=(fK x.rg.num j x.rq).length:=zA6 ..;have L:ln f4<=ln u:=by rw[E];simp
  have S:=z.q;rw[JE,zBd];clear E;generalize (jI j f4).map qZ=X at *;unfold zE at G;generalize fK x.rg.num j x.rq=Y at *;unfold zM xD at V;refine zS G ?_;rfl
 ·(refine WW ?_)
  exact zI [1012,1013,1014,1015] Z Z (zBq (AV.sl false) zA8) Z
def DT (a:Ag) (h:1<=a.ses/\a.ses<=2):zO 119 [vP a] [] (iA a.ses) []:=by
 refine eM call119 λF hF=>?_
 refine WW ?_;refine zI [] Z Z (zBq iA ?_) Z;omega
def Zk (a k s:Nat):AV:= .agg [iA a,iA k,iA s]
def qh (c:Cf) (a:Nat):List (Nat×xV):=[(1103,.box [iA a]),(1104,.box [zE wK c.js,zE vP c.ags,iA c.per,iA c.cap,iA c.hold,iA c.lock])]
def HQ (c:Cf) (a:Nat):List (List AV):=(pi (c.ags.getD a dd).ses.toNat).map λk=>[Zk a k ((uF c.ags a).toNat+k)]
def Ve (c:Cf) (a:Nat):zO 49 [wD c,iA a] [] (.fn 118 [.ptr 1104 0 0,.ptr 1103 0 0]) (qh c a):=by
 unfold wD qh;refine eM call49 λF hF=>?_
 repeat' (first|(apply zG;first|refine qA (dN (v:=AV.agg _) 1104 Z Z) Z Z Z ?_|refine qA (dN (v:=AV.s _) 1103 Z Z) Z Z Z ?_|refine uN tok Z Z ?_|apply kR)|(first|apply xY|apply xR|refine uD Z ?_|refine yR Z ?_|refine yC Z ?_|refine wA Z (λhc=>?_) λhc=>?_|apply xJ|apply xL|apply xO|apply xC))
 exact zP [1103,1104] Z Z Z Z
def Yk (c:Cf) (h:QT c.ags) (a:Nat) (M:a<ln c.ags):UQ prog 118 [.ptr 1104 0 0,.ptr 1103 0 0] (qh c a) (HQ c a):=by
 have hl:=zA vP c.ags;have Y:=h.1;have L:=h.at M;refine VB func118 Z (λargs w=>call118 args w) Z Z Z (λF y R I G=>?_);unfold qh;have S:((c.ags.take (a:Int).toNat).map vP).length=a:=by rw[zA6,zBv];omega
 have B:∀i,i<=a->uF (c.ags.take a) i=uF c.ags i:=λi=>by
  induction i with
  |zero=>intro _;rfl
  |succ i W=>
   intro hi;unfold uF;rw[W zB,zBj,zCv,zA5 zB,<-zBj]
 refine WW ?_;refine zN (a) [1103,1104] [1103,1104] [0,1,2,11,12] [4,13,1000000,0,1,2,11,12] Z (λi T U=>⟨(4,iA (uF c.ags i))::(13,iA i)::(1000000,.gh 0)::T,U⟩) (Lq ?_ ?_)
 .intro i hi
  have V:((c.ags.take (a:Int).toNat).map vP)[i]? =some (vP (c.ags.getD i dd)):=by
   show((c.ags.take a).map vP)[i]? =_
   rw[zBe,zCv,zA5 hi,zBj,zB2 zB];rfl
  have h2:=h.at (i:=i) zB;have hb:=vT h i zB;have E:=DT (c.ags.getD i dd) h2;rw[show uF c.ags (i+1)=uF c.ags i+(c.ags.getD i dd).ses from Z];clear B L G;generalize uF c.ags i=z,c.ags.getD i dd=g at *;refine zS E ?_;rfl
 .have V:=zJ vP c.ags a M;have E:=DT (c.ags.getD a dd) L;have hb:=vT h a zB;obtain⟨u,A⟩:∃u:Nat,uF c.ags a=(u:Int):=⟨(uF c.ags a).toNat,zB⟩;obtain⟨N,hN⟩:∃N:Nat,(c.ags.getD a dd).ses=(N:Int):=⟨(c.ags.getD a dd).ses.toNat,zB⟩;have hL:HQ c a=(pi N).map λk=>[Zk a k (u+k)]:=by unfold HQ;rw[A,hN];rfl
  rw[A]at hb⊢;rw[hN]at E L;rw[hL]at G⊢;clear hL hN B;generalize c.ags.getD a dd=g at *;refine zS E ?_;refine zN (N) [1103,1104] [1103,1104] [0,2,4,27] [28,1000000,0,2,4,27] Z (λi T U=>⟨(28,iA i)::(1000000,.gh i)::T,U⟩) (Lq ?_ ?_)
  .intro k hk
   have C:((pi N).map λk=>[Zk a k (u+k)])[k]? =some [Zk a k (u+k)]:=by
    rw[zBe,zC1 hk];rfl
   have O:k<((pi N).map λk=>[Zk a k (u+k)]).length:=by simp;exact hk
   rw[show Zk a k (u+k)= .agg [iA (a:Int),iA (k:Int),iA ((u:Int)+k)]from by unfold Zk;rw[show((u+k:Nat):Int)=(u:Int)+k by omega]]at C;generalize ((pi N).map λk=>[Zk a k (u+k)])=xs at*
   (repeat' (first|refine uT ?_|apply yW|apply xH|intro hc|(apply zG;apply xQ;first|(apply nf;refine GR I G Z Z C Z Z Z ?_ ?_))|(apply zG;first|refine SM ?_)|fail))
   .rfl
   .exact UR Z (.inr zB)
  ·(refine WW ?_)
   exact ZQ Z (.inl zV)
def SO (b:List Int):Nat:=(b.getD 4 0).toNat*256+(b.getD 5 0).toNat
def mj (b:List Int):Option (It×Nat):=
 if (ln b)=0 then none
 else if b.getD 0 0≠90\/(1<ln b/\b.getD 1 0≠165)then some (⟨2,0,[]⟩,1)
 else if (ln b)<6 then none
 else if 200<SO b then some (⟨7,0,[]⟩,1)
 else if (ln b)<SO b+10 then none
 else if QS ((b.drop 2).take (SO b+4))≠xh ((b.drop (SO b+6)).take 4)then some (⟨4,0,[]⟩,1)
 else if b.getD 2 0≠1 then some (⟨3,0,[]⟩,SO b+10)
 else if b.getD 3 0<1\/22<b.getD 3 0 then some (⟨5,0,[]⟩,SO b+10)
 else some (⟨0,b.getD 3 0,(b.drop 6).take (SO b)⟩,SO b+10)
def Kz (o:Option (It×Nat)):AV:=match o with
 |none=> .tup [vE ⟨0,0,[]⟩,iA 0,bA false]
 |some x=> .tup [vE x.1,iA x.2,bA true]
theorem or8 {x y:Int} (u:0<=x/\x<256) (z:0<=y/\y<256):Yj (IntKind.i64.wrap (x*2 ^ (min (8:Int).toNat IntKind.i64.bits))) y=x*256+y:=by
 have h1:IntKind.i64.wrap (x*2 ^ (min (8:Int).toNat IntKind.i64.bits))=x*256:=by
  rw[show x*2 ^ (min (8:Int).toNat IntKind.i64.bits)=x*256 from Z];exact kL (k:= .i64) ⟨by show -9223372036854775808<=_;omega,by show _<=9223372036854775807;omega⟩
 rw[h1];obtain⟨a,rfl⟩:=zCz u.1;obtain⟨c,rfl⟩:=zCz z.1;have h2:=EB (a*256) c zB zB;have A:=zEq (show c<2 ^ 8 by omega) a
 grind [Yj,Nat.shiftLeft_eq]
theorem JF (b:List Int) (hb:BY b) (i:Nat) (hi:i<ln b):(b.map yA)[i]? =some (yA (b.getD i 0))/\0<=b.getD i 0/\b.getD i 0<256:=by grind [BY,yA,qd,List.getElem?_eq_getElem,List.getElem_mem]
section
variable (b:List Int) (hb:BY b) (hl:ln b<=1000000)
include hb hl
end
def HR (f g u:Int) (ar:List Int):Nat->List Int
 |0=>[]
 |i+1=>(if(i:Int)=f/\0<g then HR f g u ar i++jQ u else HR f g u ar i)++jQ (ar.getD i dd)
def NC (f g u:Int) (ar:List Int) (i:Nat):List Int:=if(i:Int)=f/\0<g then HR f g u ar i++jQ u else HR f g u ar i
theorem DU {n:Int} (h:n<128):(jQ n).length=1:=by unfold jQ;rw[VA h];rfl
theorem n7 {n:Int} (h:n<16384):(jQ n).length<=2:=by grind [jQ,DU,GN,VA]
theorem HS (f g u:Int) (ar:List Int):∀i,(HR f g u ar i).length<=10*i
 |0=>zBb _
 |i+1=>by
  have:=HS f g u ar i;have h1:=gD u;have h2:=gD (ar.getD i dd);unfold HR
  split<;>simp only[zBa]<;>omega
theorem vt (f g u:Int) (ar:List Int) (i:Nat):(NC f g u ar i).length<=10*i+5:=by grind [NC,HS,gD,List.length_append]
theorem Xk {f g z:Int} (A:0<=z/\z<=4294967295) (B:RX ar):∀i,i<=ln ar->BY (HR f g z ar i)
 |0,_=>λx u=>by cases u
 | i+1,hi=>by
  have C:=Xk (f:=f) (g:=g) A B i zB;have h1:=EQ A.1 A.2;have h2:=B (ar.getD i dd) (yB ar i zB);have E:=EQ h2.1 h2.2;unfold HR;intro x u
  rcases zBs.1 u with u|u
  .split at u
   .exact(zBs.1 u).elim (C x) (h1 x)
   .exact C x u
  .exact E x u
theorem Jz {f g u:Int} (A:0<=u/\u<=4294967295) (z:RX ar) (i:Nat) (hi:i<=ln ar):BY (NC f g u ar i):=by grind [RX,BY,NC,Xk,EQ]
theorem Iz (k f g lo hi sd u:Int) (ar da:List Int) (c1:zO 233 [iA k] [] (.tup [XP ⟨0,f,g,lo,hi,sd⟩,bA true]) []) (c2:zO 234 [XP ⟨0,f,g,lo,hi,sd⟩,iA ((ar.map iA).length:Int)] [] (.tup [iA u,bA true]) [])
  (hd:sd= -1\/(ln da:Int)=sd) (ha:RX ar) (av:ln ar<=100) (Y:0<=u/\u<=4294967295) (hz:(NC f g u ar (ln ar)++da).length<=200):
  zO 185 [zX ⟨k,[],ar,da⟩] [] (.tup [zE yA (NC f g u ar (ln ar)++da),iA 0]) []:=by
 have c3:=QK [] zV;have a3:=zA iA ar;have a4:=zA yA da;have cg:=L7 u Y.1 Y.2;have a5:=zA yA (jQ u);have a8:=gD u;have S:=HS f g u ar;have R:=vt f g u ar;have L:HR f g u ar 0=[]:=rfl
 have M:∀i:Nat,NC f g u ar i=if(i:Int)=f/\0<g then HR f g u ar i++jQ u else HR f g u ar i:=λ_=>rfl
 have O:∀i:Nat,HR f g u ar (i+1)=NC f g u ar i++jQ (ar.getD i dd):=λ_=>rfl
 have au:(NC f g u ar (ln ar)).length+ln da<=200:=by rw[zBa]at hz;exact hz
 have hz:((NC f g u ar (ln ar)).map yA++da.map yA).length<=200:=by rw[zBa]at hz;simp;omega
 have a1:ln da<=200:=by omega
 rw[show zE yA (NC f g u ar (ln ar)++da)= .sl false (py ((NC f g u ar (ln ar)).map yA++da.map yA).length (p5 0 ((NC f g u ar (ln ar)).map yA++da.map yA))) by rw[zBr,zA8];unfold zE;rw[zBd]];rw[show zX ⟨k,[],ar,da⟩= .agg [iA k,zE yA [],zE iA ar,zE yA da]from Z];rw[show XP ⟨0,f,g,lo,hi,sd⟩= .agg [iA 0,iA f,iA g,iA lo,iA hi,iA sd]from Z]at *; generalize NC f g u ar=pg,HR f g u ar=I at *;clear au
 rcases hd with h2|h2
 all_goals
  refine eM call185 λF hF=>?_
  refine yJ (qM c1 c2 c3) ?_
 all_goals
  refine vQ 1001 Z ?_;refine yU (ln ar+1) [1001,1,4] [1,4] [1,4,6,64] [7,65,1,4,6,64] Z (λi T U zs=>(i<=ln ar)/\zs=⟨(7,.ref 1001 0 ((I i).map yA).length)::(65,iA i)::T,(1001,.arr 1 ((I i).map yA) true)::U⟩) (Lp ?_ ?_ ?_)
  .refine⟨zBn _,?_⟩;rw[L];rfl
  .rintro i st' hi ⟨hik,rfl⟩;have az:=S i;have ax:=R i;have Y:=M i;have a6:=zA yA (I i);have a2:=zA yA (pg i)
   have z:(pg i).map yA=if(i:Int)=f/\0<g then(I i).map yA++(jQ u).map yA else(I i).map yA:=by
    rw[Y];split
    .rw[zBd]
    .rfl
   by_cases ap:i=ln ar
   .subst ap;clear O Y S R M L c1 c2 c3;generalize (I (ln ar)).map yA=A at *;generalize (pg (ln ar)).map yA=B at *;generalize jQ u=W at *;by_cases C:(ln ar:Int)=f
    .by_cases G:0<g
     .rw[zA5 ⟨C,G⟩]at z;subst z;exact ng cg
     .rw[Os (λh=>G h.2)]at z;subst z;exact ly
    .rw[Os (λh=>C h.1)]at z;subst z;exact ly
   have ag:=ha (ar.getD i dd) (yB ar i zB);have cv:=L7 (ar.getD i dd) ag.1 ag.2;have hy:=zJ iA ar i zB;have hS:=O i;have a7:=zA yA (jQ (ar.getD i dd));have a9:=gD (ar.getD i dd);have ac:(I (i+1)).map yA=(pg i).map yA++(jQ (ar.getD i dd)).map yA:=by rw[hS,zBd]
   rw[ac];clear hS Y S R M O L ac c1 c2 c3 hz ha;generalize (pg (ln ar)).map yA=E,(I i).map yA=A,(pg i).map yA=B,jQ (ar.getD i dd)=V at *;generalize ar.getD i dd=a at *;generalize jQ u=W at *;by_cases C:(i:Int)=f
   .by_cases G:0<g
    .rw[zA5 ⟨C,G⟩]at z;subst z;refine yJ (xW cg cv) ?_;exact⟨zB,rfl⟩
    .rw[Os (λh=>G h.2)]at z;subst z;refine zS cv ?_;exact⟨zB,rfl⟩
   .rw[Os (λh=>C h.1)]at z;subst z;refine zS cv ?_;exact⟨zB,rfl⟩
  .rintro st' ⟨hik,rfl⟩;exfalso;omega
def jP (k:Int):Int×Int×Int×Int×Int:=if k=16 then(1,0,0,0,10)else if k=17\/k=21 then(1,0,0,0,-1)else if k=18 then(1,3,0,16,0)else if k=19 then(0,2,0,4,0)else if k=20 then(4,0,0,0,0)else(2,0,0,0,0)
def ut (k:Int) (h:13<=k/\k<=21):zO 233 [iA k] [] (.tup [XP ⟨0,(jP k).1,(jP k).2.1,(jP k).2.2.1,(jP k).2.2.2.1,(jP k).2.2.2.2⟩,bA true]) []:=by
 have:k=13\/k=14\/k=15\/k=16\/k=17\/k=18\/k=19\/k=20\/k=21:=by omega
 rcases this with rfl|rfl|rfl|rfl|rfl|rfl|rfl|rfl|rfl
 all_goals
  refine eM call233 λF hF=>?_
  exact ly
def Wk (f g lo hi A n u:Int) (O:0<=n/\n<=100) (M:0<=f/\f<=4) (h:(g=0/\n=f/\u=0)\/((g=2\/g=3)/\n=f+g*u/\0<=u/\lo<=u/\u<=hi)):zO 234 [XP ⟨0,f,g,lo,hi,A⟩,iA n] [] (.tup [iA u,bA true]) []:=by
 rw[show XP ⟨0,f,g,lo,hi,A⟩= .agg [iA 0,iA f,iA g,iA lo,iA hi,iA A]from Z]
 rcases h with⟨rfl,rfl,rfl⟩|⟨rfl|rfl,B,L,h1,h2⟩
 ·(refine eM call234 λF hF=>?_)
  exact ly
 .have z:u=(n-f).tdiv 2:=by
   rw[zC9 zB];omega
  have G:(n-f).tmod 2=0:=by
   rw[zCg zB];omega
  have I:aG .i64 ((n-f).tdiv 2):=by
   unfold aG;have e1:IntKind.i64.min= -9223372036854775808:=by decide
   have C:IntKind.i64.max=9223372036854775807:=by decide
   omega
  have E:¬n-f<0:=by omega
  subst z;clear B;refine eM call234 λF hF=>?_
  exact ly
 .have z:u=(n-f).tdiv 3:=by
   rw[zC9 zB];omega
  have G:(n-f).tmod 3=0:=by
   rw[zCg zB];omega
  have I:aG .i64 ((n-f).tdiv 3):=by
   unfold aG;have e1:IntKind.i64.min= -9223372036854775808:=by decide
   have C:IntKind.i64.max=9223372036854775807:=by decide
   omega
  have E:¬n-f<0:=by omega
  subst z;clear B;refine eM call234 λF hF=>?_
  exact ly
structure V6 (k:Int) (ar da:List Int):Prop where
 kk:13<=k/\k<=21
 n:RX ar
 l:ar.length<=60
 b:BY da
 d:(jP k).2.2.2.2= -1\/(da.length:Int)=(jP k).2.2.2.2
 g:((jP k).2.1=0/\(ar.length:Int)=(jP k).1)\/(((jP k).2.1=2\/(jP k).2.1=3)/\∃gr:Int,(ar.length:Int)=(jP k).1+(jP k).2.1*gr/\0<=gr/\(jP k).2.2.1<=gr/\gr<=(jP k).2.2.2.1)
 z:(((ar.map jQ).flatten).length+1)+da.length<=200
theorem Ue (f g z:Int) (u:z<128) (ar:List Int):∀i,i<=ln ar->(HR f g z ar i).length<=(((ar.take i).map jQ).flatten).length+(if f<i then 1 else 0)
 |0,_=>by simp[HR]
 | i+1,hi=>by
  have A:=Ue f g z u ar i zB;have h1:=DU u
  have e:ar.take (i+1)=ar.take i++[ar.getD i dd]:=by
   rw[zBj,zB2 zB,zDr,zDz zB]
  rw[e,zBd,zEr];unfold HR;simp only[zBa,zCo,zCy,zD4,List.flatten_nil,zB0,zCd];split
  .rename_i h2;rw[zBa,h1,zA5 zB];rw[Os zB]at A;omega
  .by_cases B:f<i
   .rw[zA5 B]at A;rw[zA5 zB];omega
   .rw[Os B]at A
    split<;>omega
theorem qt (f g u:Int) (z:u<128) (ar:List Int):(NC f g u ar (ln ar)).length<=((ar.map jQ).flatten).length+1:=by
 have A:=Ue f g u z ar (ln ar) (zBb _)
 grind [NC,jQ,DU,List.take_length,List.length_append]
theorem jt (f g u:Int) (ar:List Int) (h:ar≠[]):1<=(NC f g u ar (ln ar)).length:=by
 have h1:0<ln ar:=List.length_pos_iff.2 h;obtain⟨n,z⟩:∃n,ln ar=n+1:=⟨ln ar-1,zB⟩
 grind [NC,HR,List.length_append,gD]
def PyF (k:Int) (ar da p:List Int):Prop:=∃u:Int,(0<=u/\u<=100)/\(((jP k).2.1=0/\(ln ar:Int)=(jP k).1/\u=0)\/(((jP k).2.1=2\/(jP k).2.1=3)/\(ln ar:Int)=(jP k).1+(jP k).2.1*u/\0<=u/\(jP k).2.2.1<=u/\u<=(jP k).2.2.2.1))/\p=NC (jP k).1 (jP k).2.1 u ar (ln ar)++da
def Vk (h:V6 k ar da):∃p,(BY p/\PyF k ar da p)/\(ln p<=200/\(ar≠[]->1<=ln p))/\zO 185 [zX ⟨k,[],ar,da⟩] [] (.tup [zE yA p,iA 0]) []:=by
 have hl:=zA iA ar
 have E:(0<=(jP k).1/\(jP k).1<=4)/\(jP k).2.2.2.1<=16:=by
  have hk:=h.kk;have:k=13\/k=14\/k=15\/k=16\/k=17\/k=18\/k=19\/k=20\/k=21:=by omega
  clear hk h
  rcases this with rfl|rfl|rfl|rfl|rfl|rfl|rfl|rfl|rfl<;>decide
 obtain⟨E,hh⟩:=E
 obtain⟨u,G,S,A⟩:∃u:Int,(0<=u/\u<=100)/\True/\(((jP k).2.1=0/\((ar.map iA).length:Int)=(jP k).1/\u=0)\/(((jP k).2.1=2\/(jP k).2.1=3)/\((ar.map iA).length:Int)=(jP k).1+(jP k).2.1*u/\0<=u/\(jP k).2.2.1<=u/\u<=(jP k).2.2.2.1)):=by
  rw[hl]
  rcases h.g with⟨B,C⟩|⟨B,u,C,L,M,O⟩
  .exact⟨0,zB,trivial,.inl ⟨B,C,rfl⟩⟩
  .exact⟨u,zB,trivial,.inr ⟨B,C,L,M,O⟩⟩
 have I:=Wk _ _ (jP k).2.2.1 (jP k).2.2.2.1 (jP k).2.2.2.2 ((ar.map iA).length:Int) u (by have:=h.l;omega) E A;have V:=qt (jP k).1 (jP k).2.1 u zB ar;have W:=h.z;refine⟨NC (jP k).1 (jP k).2.1 u ar (ln ar)++da,⟨?_,u,G,by rw[hl]at A;exact A,rfl⟩,?_,Iz k _ _ _ _ _ u ar da (ut k h.kk) I h.d h.n (by have:=h.l;omega) zB (by rw[zBa];omega)⟩
 .intro x U;exact(zBs.1 U).elim (Jz zB h.n (ln ar) (zBb _) x) (h.b x)
 .refine⟨by rw[zBa];omega,λR=>?_⟩;have:=jt (jP k).1 (jP k).2.1 u ar R;rw[zBa];omega
def Hz (h:V6 k ar da):zO 123 [zX ⟨k,[],ar,da⟩] [] (bA true) []:=by
 obtain⟨p,_,_,c⟩:=Vk h;rw[show zX ⟨k,[],ar,da⟩= .agg [iA k,zE yA [],zE iA ar,zE yA da]from Z]at *; refine eM call123 λF hF=>?_
 exact ng c
def ZL (h:V6 k ar da):∃p,(BY p/\PyF k ar da p)/\(ln p<=200/\(ar≠[]->1<=ln p))/\JT [zX ⟨k,[],ar,da⟩] [] (.tup [zE yA (Mb k p),iA 0]) []:=by
 obtain⟨p,h1,⟨h2,u⟩,c⟩:=Vk h;have hk:=h.kk;have z:=Rz k p zB zB h1.1 h2;refine⟨p,h1,⟨h2,u⟩,?_⟩;generalize Mb k p=q at *;rw[show zX ⟨k,[],ar,da⟩= .agg [iA k,zE yA [],zE iA ar,zE yA da]from Z]at *; exact Sm
