/- Part 26. -/
import Derived.Test.YtaglbcjljlkjcaaGreatT25
namespace Go.Proofs.YtaglbcjljlkjcaaGreat.Av
open Tryz
set_option linter.all false
set_option maxRecDepth 4000
set_option maxHeartbeats 4000000
open List renaming length->ln,replicate->oj,range->pb,take->pi,getD->py
open Inhabited renaming default->dd
variable {l:List Ag}{n:Nat}
structure Cy where
 c:Cf
 rf:Bool
 f3:Int
 ds:List wD
 sg:List Sg
 sv:List Sv
 st:List Int
 vw:List Vw
instance:Inhabited wD:=⟨⟨⟨0,⟨[],0,0,[],0,0,0,0⟩,[],[],⟨0,0,0⟩⟩,[],[],[]⟩⟩
instance:Inhabited Sg:=⟨⟨⟨[],0,[],0⟩,false⟩⟩
instance:Inhabited Sv:=⟨⟨-1,0,[]⟩⟩
def aH (c:Cf) (u:Bool) (f3:Int) (a b s t v:AV):AV:= .agg [zE wK c.js,zE uK c.ags,iA c.per,iA c.cap,iA c.hold,iA c.lock,bA u,iA f3,a,b,s,t,v]
def qO (y:Cy):AV:=aH y.c y.rf y.f3 (zE zN y.ds) (zE wZ y.sg) (zE wU y.sv) (zE iA y.st) (zE vO y.vw)
def bJ {y:Cy} (h:y.rf=false):qO y= .agg [zE wK y.c.js,zE uK y.c.ags,iA y.c.per,iA y.c.cap,iA y.c.hold,iA y.c.lock,bA false,iA y.f3,zE zN y.ds,zE wZ y.sg,zE wU y.sv,zE iA y.st,zE vO y.vw]:=by rw[<-h];rfl
def HG (y:Cy):AV:=aH y.c y.rf y.f3 (.ref 1011 0 (y.ds.map zN).length) (.ref 1012 0 (y.sg.map wZ).length) (.ref 1013 0 (y.sv.map wU).length) (.ref 1014 0 (y.st.map iA).length) (zE vO y.vw)
def HI (y:Cy):List (Nat×xW):=[(1011,.arr 17 (y.ds.map zN) false),(1012,.arr 5 (y.sg.map wZ) false),(1013,.arr 3 (y.sv.map wU) false),(1014,.arr 1 (y.st.map iA) false)]
structure T6 (y:Cy):Prop where
 d:y.ds.length<=1000
 db:∀d∈y.ds,dH d
 g:y.sg.length<=1000
 gb:∀s∈y.sg,s.c.li.length<=1000/\s.c.nx.length<=1000
 s:y.sv.length<=1000
 sb:∀s∈y.sv,s.en.length<=1000
 t:y.st.length<=1000
 v:y.vw.length<=1000
 vb:∀v∈y.vw,v.co.length<=1000/\v.cn.length<=1000
def DO (l:List wD) (hl:ln l<=1073741824):zM 105 [zE zN l] [] (.ref 1011 0 (l.map zN).length) [(1011,.arr 17 (l.map zN) false)]:=by
 have u:=zA zN l;refine eM call105 λF hF=>?_
 refine xI 0 Z (λcap z=>?_) ?_
 .have:l=[]:=by simpa using z
  subst this
  (repeat' (first|refine Yf ?_|apply yW|apply xG|intro hc|fail))
  refine qG 2 1011 17 Z Z Z (xL ?_);exact zP [1011] Z Z Z Z
 .repeat' (first|(apply zG;first|refine uN tok Z Z ?_|(apply wR;refine wJ (xY tok (.inl ⟨rfl,rfl⟩) Z Z Z Z) Z ?_)|(apply yI;refine uX (nw:=[1011]) (yX tok 1011 (xs:=[]) Z Z Z Z Z Z Z Z Z) Z Z Z ?_)|(apply yD;refine vD tok Z Z Z Z Z Z Z (yM _ _ (λ_=>rfl)) Z Z Z zB Z ?_)|apply kP)|(first|apply xZ|apply xR|refine uD Z ?_|refine yR Z ?_|refine yE Z ?_|refine wA Z (λhc=>?_) λhc=>?_|apply xJ|apply xL|apply xQ|apply xB))
  exact zP [1011] Z Z Z Z
def DP (l:List Sg) (hl:ln l<=1073741824):zM 107 [zE wZ l] [] (.ref 1012 0 (l.map wZ).length) [(1012,.arr 5 (l.map wZ) false)]:=by
 have u:=zA wZ l;refine eM call107 λF hF=>?_
 refine xI 0 Z (λcap z=>?_) ?_
 .have:l=[]:=by simpa using z
  subst this
  (repeat' (first|refine Yf ?_|apply yW|apply xG|intro hc|fail))
  refine qG 2 1012 5 Z Z Z (xL ?_);exact zP [1012] Z Z Z Z
 .repeat' (first|(apply zG;first|refine uN tok Z Z ?_|(apply wR;refine wJ (xY tok (.inl ⟨rfl,rfl⟩) Z Z Z Z) Z ?_)|(apply yI;refine uX (nw:=[1012]) (yX tok 1012 (xs:=[]) Z Z Z Z Z Z Z Z Z) Z Z Z ?_)|(apply yD;refine vD tok Z Z Z Z Z Z Z (yM _ _ (λ_=>rfl)) Z Z Z zB Z ?_)|apply kP)|(first|apply xZ|apply xR|refine uD Z ?_|refine yR Z ?_|refine yE Z ?_|refine wA Z (λhc=>?_) λhc=>?_|apply xJ|apply xL|apply xQ|apply xB))
  exact zP [1012] Z Z Z Z
def DQ (l:List Sv) (hl:ln l<=1073741824):zM 109 [zE wU l] [] (.ref 1013 0 (l.map wU).length) [(1013,.arr 3 (l.map wU) false)]:=by
 have u:=zA wU l;refine eM call109 λF hF=>?_
 refine xI 0 Z (λcap z=>?_) ?_
 .have:l=[]:=by simpa using z
  subst this
  (repeat' (first|refine Yf ?_|apply yW|apply xG|intro hc|fail))
  refine qG 2 1013 3 Z Z Z (xL ?_);exact zP [1013] Z Z Z Z
 .repeat' (first|(apply zG;first|refine uN tok Z Z ?_|(apply wR;refine wJ (xY tok (.inl ⟨rfl,rfl⟩) Z Z Z Z) Z ?_)|(apply yI;refine uX (nw:=[1013]) (yX tok 1013 (xs:=[]) Z Z Z Z Z Z Z Z Z) Z Z Z ?_)|(apply yD;refine vD tok Z Z Z Z Z Z Z (yM _ _ (λ_=>rfl)) Z Z Z zB Z ?_)|apply kP)|(first|apply xZ|apply xR|refine uD Z ?_|refine yR Z ?_|refine yE Z ?_|refine wA Z (λhc=>?_) λhc=>?_|apply xJ|apply xL|apply xQ|apply xB))
  exact zP [1013] Z Z Z Z
def DS (l:List Int) (hl:ln l<=1073741824):zM 111 [zE iA l] [] (.ref 1014 0 (l.map iA).length) [(1014,.arr 1 (l.map iA) false)]:=by
 have u:=zA iA l;refine eM call111 λF hF=>?_
 refine xI 0 Z (λcap z=>?_) ?_
 .have:l=[]:=by simpa using z
  subst this
  (repeat' (first|refine Yf ?_|apply yW|apply xG|intro hc|fail))
  refine qG 2 1014 1 Z Z Z (xL ?_);exact zP [1014] Z Z Z Z
 .repeat' (first|(apply zG;first|refine uN tok Z Z ?_|(apply wR;refine wJ (xY tok (.inl ⟨rfl,rfl⟩) Z Z Z Z) Z ?_)|(apply yI;refine uX (nw:=[1014]) (yX tok 1014 (xs:=[]) Z Z Z Z Z Z Z Z Z) Z Z Z ?_)|(apply yD;refine vD tok Z Z Z Z Z Z Z (yM _ _ (λ_=>rfl)) Z Z Z zB Z ?_)|apply kP)|(first|apply xZ|apply xR|refine uD Z ?_|refine yR Z ?_|refine yE Z ?_|refine wA Z (λhc=>?_) λhc=>?_|apply xJ|apply xL|apply xQ|apply xB))
  exact zP [1014] Z Z Z Z
def DT (y:Cy) (h:T6 y):zM 44 [qO y] [] (HG y) (HI y):=by
 have G:=DO y.ds (by have:=h.d;omega);have I:=DP y.sg (by have:=h.g;omega);have L:=DQ y.sv (by have:=h.s;omega);have M:=DS y.st (by have:=h.t;omega);have O:=Oh y.vw h.v h.vb;have A:=zA zN y.ds;have B:=zA wZ y.sg;have C:=zA wU y.sv;have E:=zA iA y.st;have hd:=h.d;have R:=h.g;have S:=h.s;unfold qO HG aH HI;refine eM call44 λF hF=>?_
 refine zU G ?_;refine zO ((y.ds.map zN).length) [1011,1,2] [1,2] [1,2,12] [13,1,2,12] Z (λi T U=>⟨(13,iA i)::T,(1011,.arr 17 (dV i (y.ds.map zN)) false)::U⟩) (Lq ?_ ?_)
 .intro i hi;have hi':i<ln y.ds:=by omega
  have z:(dV i (y.ds.map zN))[i]? =some (zN (y.ds.getD i dd)):=zJ zN y.ds i hi';have e:=cG zN y.ds i hi';have u:=LB (y.ds.getD i dd) (h.db _ QP);generalize (y.ds.getD i dd)=t,dV i (y.ds.map zN)=xs,dV (i+1) (y.ds.map zN)=ys at *;subst e;refine zU u ?_;rfl
 ·(refine zU I ?_)
  refine zO ((y.sg.map wZ).length) [1012,1,2,1011] [1,2,1011] [1,2,33] [34,1,2,33] Z (λi T U=>⟨(34,iA i)::T,(1012,.arr 5 (dV i (y.sg.map wZ)) false)::U⟩) (Lq ?_ ?_)
  .intro i hi;have hi':i<ln y.sg:=by omega
   have z:(dV i (y.sg.map wZ))[i]? =some (wZ (y.sg.getD i dd)):=zJ wZ y.sg i hi';have e:=cG wZ y.sg i hi';have u:=wy (y.sg.getD i dd) (by have:=h.gb (y.sg.getD i dd) QP;omega) (by have:=h.gb (y.sg.getD i dd) QP;omega);generalize (y.sg.getD i dd)=t,dV i (y.sg.map wZ)=xs,dV (i+1) (y.sg.map wZ)=ys at *;subst e;refine zU u ?_;rfl
  ·(refine zU L ?_)
   refine zO ((y.sv.map wU).length) [1013,1,2,1011,1012] [1,2,1011,1012] [1,2,54] [55,1,2,54] Z (λi T U=>⟨(55,iA i)::T,(1013,.arr 3 (dV i (y.sv.map wU)) false)::U⟩) (Lq ?_ ?_)
   .intro i hi;have hi':i<ln y.sv:=by omega
    have z:(dV i (y.sv.map wU))[i]? =some (wU (y.sv.getD i dd)):=zJ wU y.sv i hi';have e:=cG wU y.sv i hi';have u:=GL (y.sv.getD i dd) ⟨by have:=h.sb (y.sv.getD i dd) QP;omega⟩;generalize (y.sv.getD i dd)=t,dV i (y.sv.map wU)=xs,dV (i+1) (y.sv.map wU)=ys at *;subst e;refine zU u ?_;rfl
   ·(refine yH (xU M O) ?_)
    exact zP [1011,1012,1013,1014] Z Z Z Z
def Ve {l:List AV} {y:Cy} (k:zM n l [] (HG y) (HI y)):zM n l [] (qO y) []:=by
 refine k.frz [] ?_ Z Z
 show AV.agg [zE wK y.c.js,zE uK y.c.ags,iA y.c.per,iA y.c.cap,iA y.c.hold,iA y.c.lock,bA y.rf,iA y.f3,.sl false (pi (y.ds.map zN).length (y.ds.map zN)),.sl false (pi (y.sg.map wZ).length (y.sg.map wZ)),.sl false (pi (y.sv.map wU).length (y.sv.map wU)),.sl false (pi (y.st.map iA).length (y.st.map iA)),zE vO y.vw]=_
 rw[zA8,zA8,zA8,zA8];rfl
def gk (y:Cy) (h:T6 y):zM 44 [qO y] [] (qO y) []:=Ve (DT y h)
def Es (j:Jn) (h:ln j.ph<=8):zM 79 [wK j] [] (.agg [bA true,bA false,.ref 1021 0 (j.ph.map xN).length,.ref 1022 0 (j.ph.map xN).length]) [(1021,.arr 1 (List.replicate (j.ph.map xN).length (iA 0)) false),(1022,.arr 1 (List.replicate (j.ph.map xN).length (iA 0)) false)]:=by
 have hl:=zA xN j.ph;unfold wK zE;generalize j.ph.map xN=P at *;refine eM call79 λF hF=>?_
 (repeat' (first|refine uQ ?_|apply yW|apply xG|intro hc|(apply zG;first|(apply fS;first|refine bG 1021 tok Z Z Z Z Z Z Z Z Z Z Z Z Z zB zB Z Z Z ?_|refine bG 1022 tok Z Z Z Z Z Z Z Z Z Z Z Z Z zB zB Z Z Z ?_))|fail))
 exact zP [1021,1022] Z Z Z Z
def Vr (p:Ph) (l:Li):Int:=if l.lamp=1 then max (af p-1-l.tk) 0 else if l.lamp=2 then p.yel-1-l.tk else if l.lamp=3 then p.red-1-l.tk else 0
def Kx (l:Li):Int:=if l.lamp=1\/l.lamp=2 then l.lamp else 0
def fk (p:Ph) (h:dy p) (l:Li) (B: -1000000000000<=l.tk/\l.tk<=1000000000000) (z: -1000<=af p/\af p<=1000) (C: -1000<=p.yel/\p.yel<=1000) (A: -1000<=p.red/\p.red<=1000):zM 153 [xN p,xE l] [] (iA (Vr p l)) []:=by
 have c:=pf p h;unfold Vr;generalize af p=n at *;by_cases h1:l.lamp=1
 .rw[zA4 h1];refine eM call153 λF hF=>?_
  exact mx c
 rw[Os h1];by_cases h2:l.lamp=2
 .rw[zA4 h2];refine eM call153 λF hF=>?_
  exact ly
 rw[Os h2];by_cases u:l.lamp=3
 .rw[zA4 u];refine eM call153 λF hF=>?_
  exact ly
 .rw[Os u];refine eM call153 λF hF=>?_
  exact ly
def KV (s:Sg) (n i:Nat):List Int:=ZA (λp _=>Kx (xT s.c p)) (oj n 0) i
def EQ (j:Jn) (s:Sg) (n i:Nat):List Int:=ZA (λp _=>Vr (yG j p) (xT s.c p)) (oj n 0) i
def LQ (j:Jn) (s:Sg) (v:Sv):Vw:=if s.lat=true then Y5 (ln j.ph) else⟨false,v.ph != -1,KV s (ln j.ph) (ln j.ph),EQ j s (ln j.ph) (ln j.ph)⟩
def zAc (n:Nat):oj n (iA 0)=(oj n (0:Int)).map iA:=by simp
theorem Sz (j:Jn) (J:JV j) (s:Sg) (C:CV j s.c) (v:Sv):zM 83 [wK j,wZ s,wU v] [] (vO (LQ j s v)) []:=by
 have k:=Es j J.n.2;have hl:=zA xN j.ph;have hn:=J.n;have W:(s.c.li.map xE).length=ln j.ph:=by rw[zA5];exact C.n
 unfold LQ;rw[zAc]at k;unfold wZ wU
 cases O:s.lat with
 |true=>
  rw[zA4 Z];unfold wK at *;refine eM call83 λF hF=>?_
  refine zU k ?_;refine zI [] Z Z ?_ Z
  show AV.agg [bA true,bA false,.sl false (pi (j.ph.map xN).length ((oj (j.ph.map xN).length (0:Int)).map iA)),.sl false (pi (j.ph.map xN).length ((oj (j.ph.map xN).length (0:Int)).map iA))]=_
  rw[zBf zW,hl];rfl
 | false=>
  rw[Os zBl];have e1:(oj (j.ph.map xN).length (0:Int)).map iA=(KV s (ln j.ph) 0).map iA:=by unfold KV;rw[qN,hl]
  have I:(oj (j.ph.map xN).length (0:Int)).map iA=(EQ j s (ln j.ph) 0).map iA:=by unfold EQ;rw[qN,hl]
  have k:zM 79 [wK j] [] (.agg [bA true,bA false,.ref 1021 0 (j.ph.map xN).length,.ref 1022 0 (j.ph.map xN).length]) [(1021,.arr 1 ((KV s (ln j.ph) 0).map iA) false),(1022,.arr 1 ((EQ j s (ln j.ph) 0).map iA) false)]:=by rw[<-e1,<-I];exact k
  clear e1 I;have u:∀i,((KV s (ln j.ph) i).map iA).length=ln j.ph:=λi=>by rw[zA5];unfold KV;rw[vC,zC5]
  have z:∀i,((EQ j s (ln j.ph) i).map iA).length=ln j.ph:=λi=>by rw[zA5];unfold EQ;rw[vC,zC5]
  have L:∀i,i<ln j.ph->(KV s (ln j.ph) (i+1)).map iA=((KV s (ln j.ph) i).map iA).set i (iA (Kx (xT s.c i))):=λi hi=>by unfold KV;rw[vP _ _ _ _ (by rw[zC5];exact hi)]
  have M:∀i,i<ln j.ph->(EQ j s (ln j.ph) (i+1)).map iA=((EQ j s (ln j.ph) i).map iA).set i (iA (Vr (yG j i) (xT s.c i))):=λi hi=>by unfold EQ;rw[vP _ _ _ _ (by rw[zC5];exact hi)]
  unfold wK zE at *;refine eM call83 λF hF=>?_
  refine zU k ?_;refine zO ((j.ph.map xN).length) [1021,1022,4,6,7] [4,6,7] [4,6,7,22,23] [24,4,6,7,22,23] Z (λi T U=>⟨(24,iA i)::T,(1021,.arr 1 ((KV s (ln j.ph) i).map iA) false)::(1022,.arr 1 ((EQ j s (ln j.ph) i).map iA) false)::U⟩) (Lq ?_ ?_)
  .intro i hi;have hi':i<ln j.ph:=by omega
   have hy:(j.ph.map xN)[i]? =some (xN (yG j i)):=zJ xN j.ph i hi';have hz:(s.c.li.map xE)[i]? =some (xE (xT s.c i)):=zJ xE s.c.li i (by have:=C.n;omega);have ht:=J.ti i hi';have hv:=C.k i hi';have Y:=u i;have x2:=z i;have S:=L i hi';have V:=M i hi'
   have E: -1000000000000<=(xT s.c i).tk/\(xT s.c i).tk<=1000000000000:=by
    unfold ib at hv
    repeat' split at hv
    all_goals (first|(rw[zBb]at hv;omega)|cases hv)
   have G:=fk (yG j i) ⟨zB,zB,zB,zB⟩ (xT s.c i) E (by unfold af;omega) zB zB;rw[S,V];have a1:((KV s (ln j.ph) i).map iA)[i]? =some (iA ((KV s (ln j.ph) i).getD i dd)):=zJ iA _ i (by rw[zA5]at Y;omega);have a2:(((KV s (ln j.ph) i).map iA).set i (iA 0))[i]? =some (iA 0):=by rw[zEe,zA4 Z,zA4 zB]
   have a3:((EQ j s (ln j.ph) i).map iA)[i]? =some (iA ((EQ j s (ln j.ph) i).getD i dd)):=zJ iA _ i (by rw[zA5]at x2;omega);clear S V L M u z k;generalize (KV s (ln j.ph) i).getD i dd=v1,(EQ j s (ln j.ph) i).getD i dd=v2,Vr (yG j i) (xT s.c i)=cc,(KV s (ln j.ph) i).map iA=A,(EQ j s (ln j.ph) i).map iA=B at *;generalize yG j i=p at *;unfold Kx;generalize xT s.c i=l at *;obtain⟨R,tk⟩:=l;dsimp only at *;by_cases h1:R=1
   .rw[zA4 (.inl h1),<-zFh (a:=iA 0)];refine zU G ?_;rfl
   by_cases h2:R=2
   .rw[zA4 (.inr h2),<-zFh (a:=iA 0)];refine zU G ?_;rfl
   .rw[Os (λh=>h.elim h1 h2)];refine zU G ?_;rfl
  ·(refine WW ?_)
   refine zI [] Z Z ?_ Z
   show AV.agg [bA false,bA (v.ph != -1),.sl false (pi (j.ph.map xN).length ((KV s (ln j.ph) (j.ph.map xN).length).map iA)),.sl false (pi (j.ph.map xN).length ((EQ j s (ln j.ph) (j.ph.map xN).length).map iA))]=_
   rw[zBf (by rw[u];omega),zBf (by rw[z];omega),hl];rfl
theorem Jx (j:Jn) (J:JV j) (s:Sg) (v:Sv):Ua (LQ j s v):=by
 have u:=J.n.2;unfold LQ;split
 .exact o8 u
 .refine⟨by show(KV _ _ _).length<=8;unfold KV;rw[vC,zC5];exact u,by show(EQ _ _ _ _).length<=8;unfold EQ;rw[vC,zC5];exact u,λx z=>?_⟩;obtain⟨i,hi,rfl⟩:=zDl z;have h1:=vY (λp (_:Int)=>Kx (xT s.c p)) (oj (ln j.ph) 0) (ln j.ph) i
  grind [LQ,KV,List.getElem?_eq_getElem,vC,Kx,List.length_replicate]
def uA (n:Int):AV:= .s (.int .u32 n)
def xh (a b:Int):Int:=IntKind.u32.wrap (BitVec.ofInt IntKind.u32.bits a ^^^ BitVec.ofInt IntKind.u32.bits b).toNat
def Rz (a b:Int):Int:=IntKind.u32.wrap (BitVec.ofInt IntKind.u32.bits a &&& BitVec.ofInt IntKind.u32.bits b).toNat
def Ur (a b:Int):Int:=IntKind.u32.wrap (BitVec.ofInt IntKind.u32.bits a ||| BitVec.ofInt IntKind.u32.bits b).toNat
def f7 (a:Int) (n:Nat):Int:=a.fdiv (2 ^ (min n IntKind.u32.bits))
def crS (r:Int):Int:=if Rz r 1=1 then xh (f7 r 1) 3988292384 else f7 r 1
def S6 (r:Int):Nat->Int
 |0=>r
 |i+1=>crS (S6 r i)
def crB (r x:Int):Int:=S6 (xh r x) 8
def Qz (r:Int) (l:List Int):Int:=l.foldl crB r
def QM (l:List Int):Int:=HU .u32 (Qz (HU .u32 0) l)
def ak (r:Int) (l:List Int) (x:Int):Qz r (l++[x])=crB (Qz r l) x:=by simp[Qz]
section
variable {P:Program} {tm:List (Nat×AV)} {h:List (Nat×xW)} {tx ty:Nat} {x y:Operand} {m n:Int}
def DU (u:yY (zK tm) x= .s (.int .u32 m)) (z:yY (zK tm) y= .s (.int .u32 n)):wY P ⟨tm,h⟩ (.binOp .and tx x y ty) (.s (.int .u32 (Rz m n))) [] [] []:=PN u z
def PJ (u:yY (zK tm) x= .s (.int .u32 m)) (z:yY (zK tm) y= .s (.int .u32 n)):wY P ⟨tm,h⟩ (.binOp .or tx x y ty) (.s (.int .u32 (Ur m n))) [] [] []:=HW u z
end
def Cs (r:Int) (l:List Int) (hl:ln l<=1000000) (hb:BY l):zM 301 [uA r,zE yA l] [] (uA (HU .u32 (Qz (HU .u32 r) l))) []:=by
 have E:=zA yA l;refine eM call301 λF hF=>?_
 (repeat' (first|refine uQ ?_|apply yW|apply xG|intro hc|(apply zG;first|(apply jl;refine wJ (Ke Z) Z ?_))|fail))
 generalize HU .u32 r=B at *;refine zQ (l) [] [] [11,12] [5,13,11,12] Z (λi f4 T U=>⟨(5,uA (Qz B f4))::(13,iA i)::T,U⟩) (Lq ?_ ?_)
 .intro i f4 x post u hi;have I:=zZ yA u hi;have G:=zV u hi;have C:=hb x (yU u);rw[ak];clear u;generalize Qz B f4=q at *;refine WW ?_;refine zO (8) [] [] [11,12,13] [5,21,11,12,13] Z (λi T U=>⟨(5,uA (S6 (xh q x) i))::(21,iA i)::T,U⟩) (Lq ?_ ?_)
  .intro k hk;have e:S6 (xh q x) (k+1)=crS (S6 (xh q x) k):=rfl;rw[e];generalize S6 (xh q x) k=z at *;unfold crS;by_cases A:Rz z 1=1
   .rw[zA4 A]
    (repeat' (first|refine uQ ?_|apply yW|apply xG|intro hc|(apply zG;first|(apply wR;refine wJ (DU Z Z) Z ?_))|fail))
    rfl
   .rw[Os A]
    (repeat' (first|refine uQ ?_|apply yW|apply xG|intro hc|(apply zG;first|(apply wR;refine wJ (DU Z Z) Z ?_))|fail))
    rfl
  ·(refine WW ?_)
   rfl
 ·(repeat' (first|refine uQ ?_|apply yW|apply xG|intro hc|(apply zG;first|(apply jl;refine wJ (Ke Z) Z ?_))|fail))
  exact zH
def Lb (l:List Int) (hl:ln l<=1000000) (hb:BY l):zM 261 [zE yA l] [] (uA (QM l)) []:=by
 have c:=Cs 0 l hl hb;refine eM call261 λF hF=>?_
 exact mx c
def nk (l:List Int):0<=QM l/\QM l<4294967296:=by
 unfold QM HU IntKind.wrap;simp[IntKind.signed,IntKind.bits];omega
def wh (l:List Int):Int:=l.foldl (λn x=>Ur (IntKind.u32.wrap (n*2 ^ (min (8:Int).toNat IntKind.u32.bits))) x) 0
def Ix (s:Int):List Int:=(pb 4).map λi:Nat=>IntKind.u8.wrap (s.fdiv (2 ^ (min (8*(3-(i:Int))).toNat IntKind.u32.bits)))
def HJ (k:Int) (n:Nat):List Int:=[1,k,0,(n:Int)]
def Kb (k:Int) (p:List Int):List Int:=90::165::(HJ k (ln p)++p)++Ix (QM (HJ k (ln p)++p))
section
variable {P:Program} {TT:List TI} {K0:List Nat} {F:Fr K0} {m:Nat} {ops:Array Oper} {rest:List Oper} {Q:List FP->St->Prop} {tm:List (Nat×AV)} {h:List (Nat×xW)} {dr:Bool} {fs:List FP} {ty:Nat} {pos:String} {after:Array Edge} {t:Nat}
end
theorem d7 {k:Int} {p:List Int} (z:0<=k) (A:k<=255) (hb:BY p) (u:ln p<=200):BY (HJ k (ln p)++p):=by grind [BY,HJ]
def Pz (k:Int) (p:List Int) (z:0<=k) (A:k<=255) (hb:BY p) (u:ln p<=200):JC [iA k,zE yA p] [] (.tup [zE yA (Kb k p),iA 0]) []:=Vk
def Oz (y:Int):0<=IntKind.u8.wrap y/\IntKind.u8.wrap y<256:=by
 unfold IntKind.wrap;simp[IntKind.signed,IntKind.bits];omega
def Hx (s:Int):List Int:=[IntKind.u8.wrap (s.fdiv (2 ^ (min (24:Int).toNat IntKind.u32.bits))),IntKind.u8.wrap (s.fdiv (2 ^ (min (16:Int).toNat IntKind.u32.bits))),IntKind.u8.wrap (s.fdiv (2 ^ (min (8:Int).toNat IntKind.u32.bits))),IntKind.u8.wrap s]
def Ue (k:Int) (p:List Int) (I:0<=k) (L:k<=255) (hb:BY p) (G:ln p<=200):∃q,q=90::165::(HJ k (ln p)++p)++Hx (QM (HJ k (ln p)++p))/\BY q/\q.length=ln p+10/\zM 215 [iA k,zE yA p] [] (.tup [.ref 1031 0 (q.map yA).length,iA 0]) [(1031,.arr 1 (q.map yA) true)]:=by
 have E:=zA yA p;have hh:∀y,(p.map yA)[0]? =some y->ln y.cells=1:=yM _ _ (λ_=>rfl)
 have B:IntKind.u8.wrap (vV (((p.map yA).length:Nat):Int) 8)=0:=by
  have:vV (((p.map yA).length:Nat):Int) 8=0:=by
   unfold vV;rw[zA5,zDc _ xA]
   show(ln p:Int)/256=0
   omega
  rw[this];rfl
 have z:=d7 I L hb G;have A:=Lb (HJ k (ln p)++p) (by unfold HJ;simp;omega) z
 have A:zM 261 [.sl false ((([AV.s (.int .u8 90),.s (.int .u8 165),.s (.int .u8 1),.s (.int .u8 k),.s (.int .u8 (IntKind.u8.wrap (vV (((p.map yA).length:Nat):Int) 8))),.s (.int .u8 (((p.map yA).length:Nat):Int))]++p.map yA).drop 2).take (([AV.s (.int .u8 90),.s (.int .u8 165),.s (.int .u8 1),.s (.int .u8 k),.s (.int .u8 (IntKind.u8.wrap (vV (((p.map yA).length:Nat):Int) 8))),.s (.int .u8 (((p.map yA).length:Nat):Int))]++p.map yA).length-2))] [] (uA (QM (HJ k (ln p)++p))) []:=by
  rw[B,zA5];rw[zBf zW];exact A
 generalize QM (HJ k (ln p)++p)=s at *;refine⟨90::165::(HJ k (ln p)++p)++Hx s,rfl,?_,?_,?_⟩
 .intro x u
  rcases zBq.1 u with u|u
  .simp only[zCt]at u
   rcases u with rfl|rfl|u
   .omega
   .omega
   .exact z x u
  .simp only[Hx,zCt,List.not_mem_nil,or_false]at u
   rcases u with rfl|rfl|rfl|rfl<;>exact Oz _
 .simp[HJ,Hx]
 have C:(90::165::(HJ k (ln p)++p)++Hx s).map yA=([AV.s (.int .u8 90),.s (.int .u8 165),.s (.int .u8 1),.s (.int .u8 k),.s (.int .u8 (IntKind.u8.wrap (vV (((p.map yA).length:Nat):Int) 8))),.s (.int .u8 (((p.map yA).length:Nat):Int))]++p.map yA)++[.s (.int .u8 (IntKind.u8.wrap (s.fdiv (2 ^ (min (24:Int).toNat IntKind.u32.bits))))),.s (.int .u8 (IntKind.u8.wrap (s.fdiv (2 ^ (min (16:Int).toNat IntKind.u32.bits))))),.s (.int .u8 (IntKind.u8.wrap (s.fdiv (2 ^ (min (8:Int).toNat IntKind.u32.bits))))),.s (.int .u8 (IntKind.u8.wrap s))]:=by
  rw[B,zA5];simp only[HJ,Hx,zBc,zCn,zCx,zEk,zEf,zBx];rfl
 rw[C];refine eM call215 λF hF=>?_
 (have ga:=A;(repeat' (first|refine jX ?_|apply yW|apply xG|intro hc|(apply zG;first|(apply yI;first|refine uX (nw:=[1031]) (yX tok 1031 (xs:=[_,_,_,_,_,_]) Z Z Z Z Z Z Z Z Z) Z Z Z ?_|refine vE tok Z Z ?_)|(apply gX;refine dP tok Z Z Z Z Z Z Z zB (by simp<;>omega) Z ?_))|refine SB ?_|fail))<;>clear ga)
 exact zP [1031] Z Z Z Z
def sk (m:Ms) (h:A4 m):∃q,BY q/\q.length<=210/\zM 162 [zX m] [] (.tup [.ref 1031 0 (q.map yA).length,iA 0]) [(1031,.arr 1 (q.map yA) true)]:=by
 obtain⟨p,h1,h2,u⟩:=oq m h;have hk:=h.k;obtain⟨q,_,q1,A,z⟩:=Ue m.kind p zB zB h1 h2;refine⟨q,q1,zB,?_⟩;unfold zX at *;refine eM call162 λF hF=>?_
 refine yH (xU u z) ?_;exact zP [1031] Z Z Z Z
def DV (m:Ms) (h:A4 m):∃q,BY q/\q.length<=210/\zM 95 [zX m] [] (.ref 1031 0 (q.map yA).length) [(1031,.arr 1 (q.map yA) true)]/\zM 95 [zX m] [] (zE yA q) []:=by
 obtain⟨q,q1,z,u⟩:=sk m h;refine⟨q,q1,z,?_,?_⟩
 .unfold zX at *;refine eM call95 λF hF=>?_
  refine zU u ?_;exact zP [1031] Z Z Z Z
 .unfold zX at *;refine eM call95 λF hF=>?_
  refine zU u ?_;exact zI [] Z Z (zBp (AV.sl false) zA8) Z
def DW (m:Ms) (h:A4 m):∃q,BY q/\q.length<=210/\zM 95 [zX m] [] (zE yA q) []:=by
 obtain⟨q,q1,z,_,u⟩:=DV m h;exact⟨q,q1,z,u⟩
def jE (l:List Ag):Nat->Int
 |0=>0
 |i+1=>jE l i+(l.getD i dd).ses
def LV (l:List Ag):Prop:=ln l<=4/\∀a∈l,1<=a.ses/\a.ses<=2
theorem LV.at (h:LV l) {i:Nat} (hi:i<ln l):1<=(l.getD i dd).ses/\(l.getD i dd).ses<=2:=by grind [LV]
theorem qS (h:LV l):∀i,i<=ln l->(i:Int)<=jE l i/\jE l i<=2*i
 |0,_=>⟨zDf _,zDf _⟩
 |i+1,hi=>by
  have h1:=qS h i zB;have h2:=h.at (i:=i) zB;unfold jE;omega
def Bs (c:Cf) (h:LV c.ags):zM 93 [wH c] [] (iA (jE c.ags (ln c.ags))) []:=by
 have u:=zA uK c.ags;have A:=h.1;unfold wH zE;refine eM call93 λF hF=>?_
 refine WW ?_;refine zO ((c.ags.map uK).length) [] [] [7,8] [3,9,7,8] Z (λi T U=>⟨(3,iA (jE c.ags i))::(9,iA i)::T,U⟩) (Lq ?_ ?_)
 .intro i hi;have B:=zJ uK c.ags i zB;have h2:=h.at (i:=i) zB;have hb:=qS h i zB;rw[show jE c.ags (i+1)=jE c.ags i+(c.ags.getD i dd).ses from Z];generalize jE c.ags i=z,c.ags.getD i dd=a at *;refine WW ?_;rfl
 .rw[u];exact ly
def ub (l:List Ag) (g:Int):Nat->Int
 |0=>0
 |i+1=>if(i:Int)<g then ub l g i+(l.getD i dd).ses else ub l g i
theorem Jb (h:LV l) (g:Int):∀i,i<=ln l->0<=ub l g i/\ub l g i<=2*i
 |0,_=>⟨zDf _,zDf _⟩
 |i+1,hi=>by
  have h1:=Jb h g i zB;have h2:=h.at (i:=i) zB;unfold ub
  split<;>omega
def zt (c:Cf) (h:LV c.ags) (g:Int):zM 94 [wH c,iA g] [] (iA (ub c.ags g (ln c.ags))) []:=by
 have u:=zA uK c.ags;have B:=h.1;unfold wH zE;refine eM call94 λF hF=>?_
 refine WW ?_;refine zO ((c.ags.map uK).length) [] [] [1,9,10] [5,11,1,9,10] Z (λi T U=>⟨(5,iA (ub c.ags g i))::(11,iA i)::T,U⟩) (Lq ?_ ?_)
 .intro i hi;have C:=zJ uK c.ags i zB;have h2:=h.at (i:=i) zB;have hb:=Jb h g i zB;by_cases A:(i:Int)<g
  .rw[show ub c.ags g (i+1)=ub c.ags g i+(c.ags.getD i dd).ses from zA4 A];generalize ub c.ags g i=z,c.ags.getD i dd=a at *;refine WW ?_;rfl
  .rw[show ub c.ags g (i+1)=ub c.ags g i from Os A];generalize ub c.ags g i=z,c.ags.getD i dd=a at *;refine WW ?_;rfl
 .rw[u];exact ly
def HL:List Ag->Int->Nat->Option (Nat×Int)
 | [],_,_=>none
 |a::l,s,i=>if s<a.ses then some (i,s)else HL l (s-a.ses) (i+1)
theorem yt (l:List Ag) (s:Int) (i:Nat) (h:i<ln l):HL (l.drop i) s i=if s<(l.getD i dd).ses then some (i,s)else HL (l.drop (i+1)) (s-(l.getD i dd).ses) (i+1):=by grind [HL,List.getD,List.getElem_cons_drop]
def Ib (l:List Ag) (s:Int):Int:=match HL l s 0 with
 |some p=>p.1
 |none=>0
theorem Te:∀(l:List Ag) (s:Int) (i:Nat) (p:Nat×Int),HL l s i=some p->p.1<i+ln l
 | [],_,_,_,h=>by cases h
 |a::l,s,i,p,h=>by
  unfold HL at h;split at h
  .cases h;simp only[zBj];omega
  .have:=Te l _ _ p h;simp only[zBj];omega
def Nz (h:LV l) (s:Int):0<=Ib l s/\Ib l s<4:=by
 unfold Ib;split
 .rename_i p u;have:=Te l s 0 p u;have:=h.1;omega
 .omega
def ik (c:Cf) (h:LV c.ags) (s:Int) (I: -1000<=s) (L:s<=1000):zM 97 [wH c,iA s] [] (iA (Ib c.ags s)) []:=by
 have u:=zA uK c.ags;have E:=h.1;unfold Ib wH zE;refine eM call97 λF hF=>?_
 refine WW ?_;refine yV ((c.ags.map uK).length) [] [] [8,9] [1,10,8,9] Z (λi T U B=>∃(z:Int),(HL c.ags s 0=HL (c.ags.drop i) z i/\ -1000-2*(i:Int)<=z/\z<=1000)/\B=⟨(1,iA z)::(10,iA i)::T,U⟩) (Lp ?_ ?_ ?_)
 .exact⟨s,⟨rfl,zB,zB⟩,rfl⟩
 .rintro i st hi ⟨z,⟨hz,z0,z1⟩,rfl⟩;have G:=zJ uK c.ags i zB;have h2:=h.at (i:=i) zB;rw[yt c.ags z i zB]at hz;generalize C:c.ags.drop (i+1)=D at *;generalize c.ags.getD i dd=a at *;by_cases A:z<a.ses
  .rw[zA4 A]at hz;rw[hz];exact ly
  .rw[Os A]at hz;refine WW ?_;exact⟨_,⟨hz,zB,zB⟩,rfl⟩
 .rintro st ⟨z,⟨hz,z0,z1⟩,rfl⟩;rw[u,zE9]at hz;rw[hz];exact ly
structure qb (e:Ev):Prop where
 k:1<=e.k/\e.k<=6
 s:0<=e.s/\e.s<=100
 a:0<=e.a/\e.a<=100
 b:0<=e.b/\e.b<=100
 y:BY e.y
 n:e.y.length<=1000
def nj {k s a b:Int} {y:List Int} (hk:1<=k/\k<=6) (A:0<=s/\s<=100) (u:0<=a/\a<=100) (hb:0<=b/\b<=100) (B:BY y) (z:ln y<=1000):qb ⟨k,s,a,b,y⟩:=⟨hk,A,u,hb,B,z⟩
def jU:BY []:=λx u=>by cases u
theorem Mz (c:Cf) (s:Int) (s0:0<=s) (s1:s<=100) (M:Bool) (d:Dk):∃(e:Ev) (O:Dk),qb e/\rem O<=rem d/\zM 96 [.ptr 1000 0 0,wH c,iA s,bA M] [(1000,fI d)] (hG e) [(1000,fI O)]:=by
 have A:=yS d 6 zB zB;have Y:=yQ d 6 zB;have I:=vG d;generalize nx d 6=k,ad d=u at *;unfold hG zE;by_cases h0:k=0
 .refine⟨⟨2,s,0,0,[]⟩,u,nj zB zB zB zB jU zW,I,?_⟩;refine eM call96 λF hF=>?_
  refine zU A ?_;exact zI [1000] Z Z Z Z
 by_cases h1:k=1
 .refine⟨⟨1,s,0,0,[]⟩,u,nj zB zB zB zB jU zW,I,?_⟩;refine eM call96 λF hF=>?_
  refine zU A ?_;exact zI [1000] Z Z Z Z
 by_cases h2:k=2
 .have B:=yS u 4 zB zB;have C:=yQ u 4 zB;have L:=vG u;have G:=yS (ad u) 50 zB zB;have R:=yQ (ad u) 50 zB;have W:=vG (ad u);have U:=cE (nx (ad u) 50);refine⟨⟨4,0,nx u 4,0,cO (nx (ad u) 50)⟩,ad (ad u),nj zB zB zB zB (OC _) (by rw[gZ];omega),zB,?_⟩;generalize nx (ad u) 50=q at *;generalize nx u 4=p at *;generalize cO q=y at *;refine eM call96 λF hF=>?_
  refine yH (cL A B G U) ?_;exact zI [1000] Z Z Z Z
 cases M with
 |true=>
  refine⟨⟨6,0,0,0,[]⟩,u,nj zB zB zB zB jU zW,I,?_⟩;refine eM call96 λF hF=>?_
  refine zU A ?_;exact zI [1000] Z Z Z Z
 |false=>
 by_cases h3:k=3
 .have B:=yS u 3 zB zB;have C:=yQ u 3 zB;have L:=vG u;have G:=yS (ad u) 9 zB zB;have R:=yQ (ad u) 9 zB;have W:=vG (ad u);refine⟨⟨5,0,nx u 3,nx (ad u) 9,[]⟩,ad (ad u),nj zB zB zB zB jU zW,zB,?_⟩;generalize nx (ad u) 9=q at *;generalize nx u 3=p at *;refine eM call96 λF hF=>?_
  refine yH (qL A B G) ?_;exact zI [1000] Z Z Z Z
 by_cases h4:k=4
 .have B:=yS u 120 zB zB;have C:=yQ u 120 zB;have L:=vG u;refine⟨⟨3,s,0,0,oj (150+nx u 120).toNat 0⟩,ad u,nj zB zB zB zB (λx S=>by have:=(zE1.1 S).2;omega) (by rw[zC5];omega),zB,?_⟩;generalize nx u 120=q at *;refine eM call96 λF hF=>?_
  have E:150+q=(((150+q).toNat:Nat):Int):=by omega
  (have ga:=A;have ge:=B;(repeat' (first|refine uQ ?_|apply yW|apply xG|intro hc|(apply zG;first|(apply fS;refine Me tok Z Z Z Z Z Z Z Z Z Z Z Z E zB zB Z Z Z ?_))|fail))<;>clear ga ge)
  have e:pi (150+q).toNat (List.drop 0 (oj (150+q).toNat (yA 0)))=(oj (150+q).toNat 0).map yA:=by rw[zBr,zBf zW,zEt]
  exact zI [1000] Z Z (zBp (λz=>AV.agg [iA 3,iA s,iA 0,iA 0,.sl false z]) e) Z
 .have B:=gq u 9 zB zB;have C:=yQ u (9+1) zB;obtain⟨p1,p2,V⟩:=ue (ad u) (nx u (9+1)).toNat;have L:=vG u;refine⟨⟨3,s,0,0,(dB (ad u) (nx u (9+1)).toNat).1⟩,(dB (ad u) (nx u (9+1)).toNat).2,nj zB zB zB zB V zB,zB,?_⟩;generalize (dB (ad u) (nx u (9+1)).toNat).1=y at *;generalize (dB (ad u) (nx u (9+1)).toNat).2=d2 at *;refine eM call96 λF hF=>?_
  refine yH (xU A B) ?_;exact zI [1000] Z Z Z Z
def KW (l:List Ev) (n:Nat):Prop:=ln l<=n/\∀e∈l,qb e
theorem KW.nil:KW [] 0:=⟨zBa _,λe h=>by cases h⟩
theorem KW.app {l:List Ev} (h:KW l n) {e:Ev} (z:qb e):KW (l++[e]) (n+1):=
 ⟨by have:=h.1;rw[zA9,zDa];omega,λx u=>(zBq.1 u).elim (h.2 x) λu=>by rw[zBz.1 u];exact z⟩
theorem KW.le {l:List Ev} {m:Nat} (h:KW l n) (u:n<=m):KW l m:=⟨zB9 h.1 u,h.2⟩
def Lz (g v:Int) (u:0<=g/\g<256) (hv:0<=v/\v<=100):A4 ⟨4,g::0::cO (1000+g),[v,v.tmod 2],[]⟩:=by
 have h1:=zGn 2 hv.1;have h2:v.tmod 2<2:=zF7 v zB;exact⟨yo u zB (OC _),by simp[gZ],by dsimp only;omega,.cons zB (.cons zB .nil),⟨0,zB,λh=>absurd Z h,rfl⟩,rfl⟩
structure Hb (c:Cf):Prop where
 j:1<=c.js.length/\c.js.length<=4
 jv:∀j∈c.js,JV j
 a:1<=c.ags.length/\c.ags.length<=4
 av:∀a∈c.ags,Uy a
 p:1<=c.per/\c.per<=600
 cp:0<=c.cap/\c.cap<=100
 h:1<=c.hold/\c.hold<=60
 l:0<=c.lock/\c.lock<=600
theorem Hb.w {c:Cf} (h:Hb c):IT c:=⟨h.j.2,λj hj=>(h.jv j hj).n⟩
theorem Hb.ag {c:Cf} (h:Hb c):LV c.ags:=⟨h.a.2,λa u=>(h.av a u).e⟩
def p7 (d:Dk) (r:Int) (z:0<=r/\r<=63):Hb (EA d r):=by
 have C:=m8 d r;have h1:=yQ d (4-1+1) zB;have h2:=yQ (ad d) 4 zB;have A:=yQ (ad (ad d)) (3-1+1) zB;have B:=yQ (ad (ad (ad d))) 5 zB;refine⟨zB,λj hj=>?_,zB,λa u=>?_,?_,?_,?_,?_⟩
 .rw[vq]at hj;obtain⟨e,rfl⟩:=Yg _ _ j hj;exact A0 e
 .obtain⟨i,hi,rfl⟩:=zDl u;have:=(X5 d r z (i:Int) zB zB).1.v;rw[show(i:Int).toNat=i from Z]at this;rw[show(EA d r).ags[i]=(EA d r).ags.getD i dd by simp[py,hi]];exact this
 all_goals (unfold EA;dsimp only;omega)
def LW (c:Cf) (i:Nat):List wD:=(pb i).map λk:Nat=>PE (k:Int) (c.ags.getD k dd) (c.ags.getD k dd).ses.toNat
def HM (j:Jn):Sv:=Sh (ln j.ph)
def UF (c:Cf):Cy:=⟨c,false,0,LW c (ln c.ags),c.js.map fQ,c.js.map HM,c.js.map λ_=> -1,c.js.map λj=>LQ j (fQ j) (HM j)⟩
def Kz (j:Int) (x:Lg):zM 160 [yO x,.ptr 5 0 0] [(5,.box [iA j])] (bA (x.jn==j)) [(5,.box [iA j])]:=by
 refine eM call160 λF hF=>?_
 refine WW ?_;exact zP [5] Z Z Z Z
def Jz (j:Int) (l:List Lg) (hb:ln l<=1000):zM 159 [zE yO l,.fn 160 [.ptr 5 0 0]] [(5,.box [iA j])] (iA (TM (λr:Lg=>r.jn==j) l)) [(5,.box [iA j])]:=by
 have hl:=zA yO l;refine eM call159 λF hF=>?_
 refine WW ?_;refine uS (l) [5] [5] [0,1,7] [8,0,1,7] Z (λi f4 T U E=>(∀y∈f4,(y.jn==j)=false)/\E=⟨(8,iA i)::T,U⟩) (Lp ?_ ?_ ?_)
 .exact⟨by simp,rfl⟩
 .rintro i f4 x post st z hi ⟨hp,rfl⟩;have A:=zZ yO z hi;have C:=zV z hi;have c:=Kz j x;have u:=OE (p:=λr:Lg=>r.jn==j) z hp
  cases B:(x.jn==j)<;>rw[B]at c
  .clear z u;refine zU c ?_;exact⟨λy A=>by simp only[zBq,zBz]at A;rcases A with A|rfl;exact hp y A;exact B,rfl⟩
  .rw[u B,hi];clear z u;refine zU c ?_;exact zP [5] Z Z Z Z
 .rintro st ⟨hp,rfl⟩;rw[bW hp];refine WW ?_;exact zP [5] rfl rfl rfl rfl
def OW (u j:Int) (x:Rq):List Cl:=if TM (λr:Lg=>r.jn==j) x.legs<0 then []else if(x.legs.getD (TM (λr:Lg=>r.jn==j) x.legs).toNat dd).sc= -1 then []else [⟨u,x.id,(x.legs.getD (TM (λr:Lg=>r.jn==j) x.legs).toNat dd).ph,x.cls,(x.legs.getD (TM (λr:Lg=>r.jn==j) x.legs).toNat dd).sc⟩]
def fK (u j:Int) (l:List Rq):List Cl:=(l.map (OW u j)).flatten
theorem Zk (u j:Int) (x:Rq):(OW u j x).length<=1:=by grind [OW]
def KX (u j:Int) (l:List Rq) (x:Rq):fK u j (l++[x])=fK u j l++OW u j x:=by simp[fK]
theorem dX (u j:Int):∀l:List Rq,(fK u j l).length<=ln l
 | []=>zBa _
 |x::l=>by
  have h1:=Zk u j x;have h2:=dX u j l;have e:fK u j (x::l)=OW u j x++fK u j l:=rfl;rw[e,zA9,zBj];omega
def uh (l:List Rq) (u j:Int) (S:ln l<=1000) (hb:∀r∈l,ln r.legs<=1000):zM 89 [zE zY l,iA u,iA j] [] (zE kD (fK u j l)) []:=by
 have hl:=zA zY l;refine eM call89 λF hF=>?_
 refine WW ?_;refine zS 7 1001 5 Z Z Z ?_;refine zQ (l) [1001,5] [5] [1,5,12,13] [7,14,1,5,12,13] Z (λi f4 T U=>⟨(7,.ref 1001 0 ((fK u j f4).map kD).length)::(14,iA i)::T,(1001,.arr 5 ((fK u j f4).map kD) true)::U⟩) (Lq ?_ ?_)
 .intro i f4 x post A hi;have W:=zZ zY A hi;have I:=zV A hi;have B:=Jz j x.legs (hb x (yU A));have V:=dX u j f4;have M:((fK u j f4).map kD).length=(fK u j f4).length:=zA5 ..;have L:ln f4<=ln l:=by rw[A];simp
  have O:(x.legs.map yO).length=ln x.legs:=zA5 ..;rw[KX,zBc]
  have G: -1<=TM (λr:Lg=>r.jn==j) x.legs/\(0<=TM (λr:Lg=>r.jn==j) x.legs->TM (λr:Lg=>r.jn==j) x.legs<ln x.legs):=by
   cases E:x.legs.any (λr:Lg=>r.jn==j)with
   |true=>have:=Wd E;omega
   |false=>rw[TM,E,Os zBl];omega
  unfold OW;clear A;generalize (fK u j f4).map kD=X at *;by_cases C:TM (λr:Lg=>r.jn==j) x.legs<0
  .rw[zA4 C,zCx,zB1];generalize TM (λr:Lg=>r.jn==j) x.legs=z at *;refine zU B ?_;rfl
  .rw[Os C];have R:=yF yO x.legs (TM (λr:Lg=>r.jn==j) x.legs) zB zB;generalize TM (λr:Lg=>r.jn==j) x.legs=z at *;generalize x.legs.getD z.toNat dd=g at *;by_cases h1:g.sc= -1
   .rw[zA4 h1,zCx,zB1];refine zU B ?_;rfl
   .rw[Os h1];refine zU B ?_;rfl
 ·(refine WW ?_)
  exact zI [] Z Z (zBp (AV.sl false) zA8) Z
def jK (j:Int) (l:List wD):List Cl:=(l.map λd=>fK d.rg.num j d.rq).flatten
def KY (j:Int) (l:List wD) (d:wD):jK j (l++[d])=jK j l++fK d.rg.num j d.rq:=by simp[jK]
theorem OX (j:Int):∀l:List wD,(∀d∈l,ln d.rq<=1000)->(jK j l).length<=1000*ln l
 | [],_=>zBa _
 |d::l,h=>by
  have h1:=dX d.rg.num j d.rq;have h2:=OX j l (λx u=>h x (by simp[u]));have z:=h d zW;have e:jK j (d::l)=fK d.rg.num j d.rq++jK j l:=rfl;rw[e,zA9,zBj];omega
def qh (c:Cf) (W:Bool) (f3:Int) (u:List wD) (j:Int) (hd:ln u<=1000) (hb:∀d∈u,dH d) (A B C D:List AV) (a b e f:Nat):
  zM 38 [aH c W f3 (zE zN u) (.ref 1012 0 a) (.ref 1013 0 b) (.ref 1014 0 e) (.ref 1015 0 f),iA j] [(1012,.arr 5 A false),(1013,.arr 3 B false),(1014,.arr 1 C false),(1015,.arr 4 D false)] (zE kD (jK j u)) [(1012,.arr 5 A false),(1013,.arr 3 B false),(1014,.arr 1 C false),(1015,.arr 4 D false)]:=by
 have hl:=zA zN u;unfold aH;refine eM call38 λF hF=>?_
 refine WW ?_;refine zS 5 1001 5 Z Z Z ?_;refine zQ (u) [1001,1012,1013,1014,1015] [1012,1013,1014,1015] [1,9,10] [5,11,1,9,10] Z (λi f4 T U=>⟨(5,.ref 1001 0 ((jK j f4).map kD).length)::(11,iA i)::T,(1001,.arr 5 ((jK j f4).map kD) true)::U⟩) (Lq ?_ ?_)
 .intro i f4 x post E hi;have V:=zZ zN E hi;have I:=zV E hi;have z:=hb x (yU E);have G:=uh x.rq x.rg.num j z.q z.g;have hq:=OX j f4 (λd hd=>(hb d (by rw[E];simp[hd])).q);have R:((jK j f4).map kD).length=(jK j f4).length:=zA5 ..;have M:=dX x.rg.num j x.rq;have O:((fK x.rg.num j x.rq).map kD).length=(fK x.rg.num j x.rq).length:=zA5 ..;have L:ln f4<=ln u:=by rw[E];simp
  have S:=z.q;rw[KY,zBc];clear E;generalize (jK j f4).map kD=X at *;unfold zE at G;generalize fK x.rg.num j x.rq=Y at *;unfold zN xD at V;refine zU G ?_;rfl
 ·(refine WW ?_)
  exact zI [1012,1013,1014,1015] Z Z (zBp (AV.sl false) zA8) Z
def DX (a:Ag) (h:1<=a.ses/\a.ses<=2):zM 119 [uK a] [] (iA a.ses) []:=by
 refine eM call119 λF hF=>?_
 refine WW ?_;refine zI [] Z Z (zBp iA ?_) Z;omega
def Yk (a k s:Nat):AV:= .agg [iA a,iA k,iA s]
def jh (c:Cf) (a:Nat):List (Nat×xW):=[(1103,.box [iA a]),(1104,.box [zE wK c.js,zE uK c.ags,iA c.per,iA c.cap,iA c.hold,iA c.lock])]
def HN (c:Cf) (a:Nat):List (List AV):=(pb (c.ags.getD a dd).ses.toNat).map λk=>[Yk a k ((jE c.ags a).toNat+k)]
def Se (c:Cf) (a:Nat):zM 49 [wH c,iA a] [] (.fn 118 [.ptr 1104 0 0,.ptr 1103 0 0]) (jh c a):=by
 unfold wH jh;refine eM call49 λF hF=>?_
 repeat' (first|(apply zG;first|refine uX (dM (v:=AV.agg _) 1104 Z Z) Z Z Z ?_|refine uX (dM (v:=AV.s _) 1103 Z Z) Z Z Z ?_|refine uN tok Z Z ?_|apply kP)|(first|apply xZ|apply xR|refine uD Z ?_|refine yR Z ?_|refine yE Z ?_|refine wA Z (λhc=>?_) λhc=>?_|apply xJ|apply xL|apply xQ|apply xB))
 exact zP [1103,1104] Z Z Z Z
def Xk (c:Cf) (h:LV c.ags) (a:Nat) (M:a<ln c.ags):TE prog 118 [.ptr 1104 0 0,.ptr 1103 0 0] (jh c a) (HN c a):=by
 have hl:=zA uK c.ags;have Y:=h.1;have L:=h.at M;refine VN func118 Z (λargs w=>call118 args w) Z Z Z (λF y R I G=>?_);unfold jh;have S:((c.ags.take (a:Int).toNat).map uK).length=a:=by rw[zA5,zBt];omega
 have B:∀i,i<=a->jE (c.ags.take a) i=jE c.ags i:=λi=>by
  induction i with
  |zero=>intro _;rfl
  |succ i W=>
   intro hi;unfold jE;rw[W zB,zBk,zCu,zA4 zB,<-zBk]
 refine WW ?_;refine zO (a) [1103,1104] [1103,1104] [0,1,2,11,12] [4,13,1000000,0,1,2,11,12] Z (λi T U=>⟨(4,iA (jE c.ags i))::(13,iA i)::(1000000,.gh 0)::T,U⟩) (Lq ?_ ?_)
 .intro i hi
  have V:((c.ags.take (a:Int).toNat).map uK)[i]? =some (uK (c.ags.getD i dd)):=by
   show((c.ags.take a).map uK)[i]? =_
   rw[zBd,zCu,zA4 hi,zBk,zB2 zB];rfl
  have h2:=h.at (i:=i) zB;have hb:=qS h i zB;have E:=DX (c.ags.getD i dd) h2;rw[show jE c.ags (i+1)=jE c.ags i+(c.ags.getD i dd).ses from Z];clear B L G;generalize jE c.ags i=z,c.ags.getD i dd=g at *;refine zU E ?_;rfl
 .have V:=zJ uK c.ags a M;have E:=DX (c.ags.getD a dd) L;have hb:=qS h a zB;obtain⟨u,A⟩:∃u:Nat,jE c.ags a=(u:Int):=⟨(jE c.ags a).toNat,zB⟩;obtain⟨N,hN⟩:∃N:Nat,(c.ags.getD a dd).ses=(N:Int):=⟨(c.ags.getD a dd).ses.toNat,zB⟩;have hL:HN c a=(pb N).map λk=>[Yk a k (u+k)]:=by unfold HN;rw[A,hN];rfl
  rw[A]at hb⊢;rw[hN]at E L;rw[hL]at G⊢;clear hL hN B;generalize c.ags.getD a dd=g at *;refine zU E ?_;refine zO (N) [1103,1104] [1103,1104] [0,2,4,27] [28,1000000,0,2,4,27] Z (λi T U=>⟨(28,iA i)::(1000000,.gh i)::T,U⟩) (Lq ?_ ?_)
  .intro k hk
   have C:((pb N).map λk=>[Yk a k (u+k)])[k]? =some [Yk a k (u+k)]:=by
    rw[zBd,zC3 hk];rfl
   have O:k<((pb N).map λk=>[Yk a k (u+k)]).length:=by simp;exact hk
   rw[show Yk a k (u+k)= .agg [iA (a:Int),iA (k:Int),iA ((u:Int)+k)]from by unfold Yk;rw[show((u+k:Nat):Int)=(u:Int)+k by omega]]at C;generalize ((pb N).map λk=>[Yk a k (u+k)])=xs at*
   (repeat' (first|refine uQ ?_|apply yW|apply xG|intro hc|(apply zG;apply xP;first|(apply Pf;refine FE I G Z Z C Z Z Z ?_ ?_))|(apply zG;first|refine SM ?_)|fail))
   .rfl
   .exact TF Z (.inr zB)
  ·(refine WW ?_)
   exact ZV Z (.inl zW)
def SU (b:List Int):Nat:=(b.getD 4 0).toNat*256+(b.getD 5 0).toNat
def mj (b:List Int):Option (It×Nat):=
 if (ln b)=0 then none
 else if b.getD 0 0≠90\/(1<ln b/\b.getD 1 0≠165)then some (⟨2,0,[]⟩,1)
 else if (ln b)<6 then none
 else if 200<SU b then some (⟨7,0,[]⟩,1)
 else if (ln b)<SU b+10 then none
 else if QM ((b.drop 2).take (SU b+4))≠wh ((b.drop (SU b+6)).take 4)then some (⟨4,0,[]⟩,1)
 else if b.getD 2 0≠1 then some (⟨3,0,[]⟩,SU b+10)
 else if b.getD 3 0<1\/22<b.getD 3 0 then some (⟨5,0,[]⟩,SU b+10)
 else some (⟨0,b.getD 3 0,(b.drop 6).take (SU b)⟩,SU b+10)
def Iz (o:Option (It×Nat)):AV:=match o with
 |none=> .tup [vQ ⟨0,0,[]⟩,iA 0,bA false]
 |some x=> .tup [vQ x.1,iA x.2,bA true]
theorem or8 {x y:Int} (u:0<=x/\x<256) (z:0<=y/\y<256):Yj (IntKind.i64.wrap (x*2 ^ (min (8:Int).toNat IntKind.i64.bits))) y=x*256+y:=by
 have h1:IntKind.i64.wrap (x*2 ^ (min (8:Int).toNat IntKind.i64.bits))=x*256:=by
  rw[show x*2 ^ (min (8:Int).toNat IntKind.i64.bits)=x*256 from Z];exact kI (k:= .i64) ⟨by show -9223372036854775808<=_;omega,by show _<=9223372036854775807;omega⟩
 rw[h1];obtain⟨a,rfl⟩:=zCy u.1;obtain⟨c,rfl⟩:=zCy z.1;have h2:=FS (a*256) c zB zB;have A:=zEp (show c<2 ^ 8 by omega) a
 grind [Yj,Nat.shiftLeft_eq]
theorem KZ (b:List Int) (hb:BY b) (i:Nat) (hi:i<ln b):(b.map yA)[i]? =some (yA (b.getD i 0))/\0<=b.getD i 0/\b.getD i 0<256:=by grind [BY,yA,py,List.getElem?_eq_getElem,List.getElem_mem]
section
variable (b:List Int) (hb:BY b) (hl:ln b<=1000000)
include hb hl
end
