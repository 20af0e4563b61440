/- Part 23. -/
import Derived.Test.YtaglbcjljlkjcaaGreatV22
namespace Go.Proofs.YtaglbcjljlkjcaaGreat.Av
open Tryz
set_option linter.all false
set_option maxRecDepth 4000
set_option maxHeartbeats 4000000
open List renaming length->ln,replicate->pg,range->pi,take->py,drop->p5,getD->qd
open Inhabited renaming default->dd
variable {l:List Ag}{n:Nat}
structure Cy where
 c:Cf
 rf:Bool
 ga:Int
 ds:List xU
 sg:List Sg
 sv:List Sv
 st:List Int
 vw:List Vw
instance:Inhabited xU:=⟨⟨⟨0,⟨[],0,0,[],0,0,0,0⟩,[],[],⟨0,0,0⟩⟩,[],[],[]⟩⟩
instance:Inhabited Sg:=⟨⟨⟨[],0,[],0⟩,false⟩⟩
instance:Inhabited Sv:=⟨⟨-1,0,[]⟩⟩
def eJ (c:Cf) (u:Bool) (ga:Int) (a b s t v:AV):AV:= .agg [zE xC c.js,zE wP c.ags,iA c.per,iA c.cap,iA c.hold,iA c.lock,bA u,iA ga,a,b,s,t,v]
def vN (y:Cy):AV:=eJ y.c y.rf y.ga (zE zN y.ds) (zE wD y.sg) (zE xZ y.sv) (zE iA y.st) (zE wE y.vw)
def cG {y:Cy} (h:y.rf=false):vN y= .agg [zE xC y.c.js,zE wP y.c.ags,iA y.c.per,iA y.c.cap,iA y.c.hold,iA y.c.lock,bA false,iA y.ga,zE zN y.ds,zE wD y.sg,zE xZ y.sv,zE iA y.st,zE wE y.vw]:=by rw[<-h];rfl
def OY (y:Cy):AV:=eJ y.c y.rf y.ga (.ref 1011 0 (y.ds.map zN).length) (.ref 1012 0 (y.sg.map wD).length) (.ref 1013 0 (y.sv.map xZ).length) (.ref 1014 0 (y.st.map iA).length) (zE wE y.vw)
def OZ (y:Cy):List (Nat×xM):=[(1011,.arr 17 (y.ds.map zN) false),(1012,.arr 5 (y.sg.map wD) false),(1013,.arr 3 (y.sv.map xZ) false),(1014,.arr 1 (y.st.map iA) false)]
structure xw (y:Cy):Prop where
 d:y.ds.length<=1000
 db:∀d∈y.ds,cY d
 g:y.sg.length<=1000
 gb:∀s∈y.sg,s.c.li.length<=1000/\s.c.nx.length<=1000
 s:y.sv.length<=1000
 sb:∀s∈y.sv,s.en.length<=1000
 t:y.st.length<=1000
 v:y.vw.length<=1000
 vb:∀v∈y.vw,v.co.length<=1000/\v.cn.length<=1000
def RW (l:List xU) (hl:ln l<=1073741824):zO 105 [zE zN l] [] (.ref 1011 0 (l.map zN).length) [(1011,.arr 17 (l.map zN) false)]:=by
 have u:=zA zN l;refine eM call105 λF hF=>?_
 refine xW 0 Z (λcap hx=>?_) ?_
 .have:l=[]:=by simpa using hx
  subst this
  (repeat' (first|refine Ze ?_|apply yY|apply xN|intro hc|fail))
  refine uN 2 1011 17 Z Z Z (xP ?_);exact zV [1011] Z Z Z Z
 .repeat' (first|(apply zG;first|refine vT tok Z Z ?_|(apply vE;refine wO (xQ tok (.inl ⟨rfl,rfl⟩) Z Z Z Z) Z ?_)|(apply yL;refine qH (nw:=[1011]) (xD tok 1011 (xs:=[]) Z Z Z Z Z Z Z Z Z) Z Z Z ?_)|(apply yI;refine wU tok Z Z Z Z Z Z Z (yG _ _ (λ_=>rfl)) Z Z Z zB Z ?_)|apply qV)|(first|apply wF|apply wB|refine uW Z ?_|refine yT Z ?_|refine yH Z ?_|refine wL Z (λhc=>?_) λhc=>?_|apply xO|apply xP|apply wA|apply xE))
  exact zV [1011] Z Z Z Z
def RX (l:List Sg) (hl:ln l<=1073741824):zO 107 [zE wD l] [] (.ref 1012 0 (l.map wD).length) [(1012,.arr 5 (l.map wD) false)]:=by
 have u:=zA wD l;refine eM call107 λF hF=>?_
 refine xW 0 Z (λcap hx=>?_) ?_
 .have:l=[]:=by simpa using hx
  subst this
  (repeat' (first|refine Ze ?_|apply yY|apply xN|intro hc|fail))
  refine uN 2 1012 5 Z Z Z (xP ?_);exact zV [1012] Z Z Z Z
 .repeat' (first|(apply zG;first|refine vT tok Z Z ?_|(apply vE;refine wO (xQ tok (.inl ⟨rfl,rfl⟩) Z Z Z Z) Z ?_)|(apply yL;refine qH (nw:=[1012]) (xD tok 1012 (xs:=[]) Z Z Z Z Z Z Z Z Z) Z Z Z ?_)|(apply yI;refine wU tok Z Z Z Z Z Z Z (yG _ _ (λ_=>rfl)) Z Z Z zB Z ?_)|apply qV)|(first|apply wF|apply wB|refine uW Z ?_|refine yT Z ?_|refine yH Z ?_|refine wL Z (λhc=>?_) λhc=>?_|apply xO|apply xP|apply wA|apply xE))
  exact zV [1012] Z Z Z Z
def RY (l:List Sv) (hl:ln l<=1073741824):zO 109 [zE xZ l] [] (.ref 1013 0 (l.map xZ).length) [(1013,.arr 3 (l.map xZ) false)]:=by
 have u:=zA xZ l;refine eM call109 λF hF=>?_
 refine xW 0 Z (λcap hx=>?_) ?_
 .have:l=[]:=by simpa using hx
  subst this
  (repeat' (first|refine Ze ?_|apply yY|apply xN|intro hc|fail))
  refine uN 2 1013 3 Z Z Z (xP ?_);exact zV [1013] Z Z Z Z
 .repeat' (first|(apply zG;first|refine vT tok Z Z ?_|(apply vE;refine wO (xQ tok (.inl ⟨rfl,rfl⟩) Z Z Z Z) Z ?_)|(apply yL;refine qH (nw:=[1013]) (xD tok 1013 (xs:=[]) Z Z Z Z Z Z Z Z Z) Z Z Z ?_)|(apply yI;refine wU tok Z Z Z Z Z Z Z (yG _ _ (λ_=>rfl)) Z Z Z zB Z ?_)|apply qV)|(first|apply wF|apply wB|refine uW Z ?_|refine yT Z ?_|refine yH Z ?_|refine wL Z (λhc=>?_) λhc=>?_|apply xO|apply xP|apply wA|apply xE))
  exact zV [1013] Z Z Z Z
def RZ (l:List Int) (hl:ln l<=1073741824):zO 111 [zE iA l] [] (.ref 1014 0 (l.map iA).length) [(1014,.arr 1 (l.map iA) false)]:=by
 have u:=zA iA l;refine eM call111 λF hF=>?_
 refine xW 0 Z (λcap hx=>?_) ?_
 .have:l=[]:=by simpa using hx
  subst this
  (repeat' (first|refine Ze ?_|apply yY|apply xN|intro hc|fail))
  refine uN 2 1014 1 Z Z Z (xP ?_);exact zV [1014] Z Z Z Z
 .repeat' (first|(apply zG;first|refine vT tok Z Z ?_|(apply vE;refine wO (xQ tok (.inl ⟨rfl,rfl⟩) Z Z Z Z) Z ?_)|(apply yL;refine qH (nw:=[1014]) (xD tok 1014 (xs:=[]) Z Z Z Z Z Z Z Z Z) Z Z Z ?_)|(apply yI;refine wU tok Z Z Z Z Z Z Z (yG _ _ (λ_=>rfl)) Z Z Z zB Z ?_)|apply qV)|(first|apply wF|apply wB|refine uW Z ?_|refine yT Z ?_|refine yH Z ?_|refine wL Z (λhc=>?_) λhc=>?_|apply xO|apply xP|apply wA|apply xE))
  exact zV [1014] Z Z Z Z
def VZ (y:Cy) (h:xw y):zO 44 [vN y] [] (OY y) (OZ y):=by
 have G:=RW y.ds (by have:=h.d;omega);have I:=RX y.sg (by have:=h.g;omega);have L:=RY y.sv (by have:=h.s;omega);have M:=RZ y.st (by have:=h.t;omega);have O:=JL y.vw h.v h.vb;have A:=zA zN y.ds;have B:=zA wD y.sg;have C:=zA xZ y.sv;have E:=zA iA y.st;have hd:=h.d;have R:=h.g;have S:=h.s;unfold vN OY eJ OZ;refine eM call44 λF hF=>?_
 refine zP G ?_;refine zM ((y.ds.map zN).length) [1011,1,2] [1,2] [1,2,12] [13,1,2,12] Z (λi T U=>⟨(13,iA i)::T,(1011,.arr 17 (dI i (y.ds.map zN)) false)::U⟩) (Lq ?_ ?_)
 .intro i hi;have hi':i<ln y.ds:=by omega
  have z:(dI i (y.ds.map zN))[i]? =some (zN (y.ds.getD i dd)):=zJ zN y.ds i hi';have e:=fW zN y.ds i hi';have u:=TJ (y.ds.getD i dd) (h.db _ QT);generalize (y.ds.getD i dd)=t,dI i (y.ds.map zN)=xs,dI (i+1) (y.ds.map zN)=ys at *;subst e;refine zP u ?_;rfl
 ·(refine zP I ?_)
  refine zM ((y.sg.map wD).length) [1012,1,2,1011] [1,2,1011] [1,2,33] [34,1,2,33] Z (λi T U=>⟨(34,iA i)::T,(1012,.arr 5 (dI i (y.sg.map wD)) false)::U⟩) (Lq ?_ ?_)
  .intro i hi;have hi':i<ln y.sg:=by omega
   have z:(dI i (y.sg.map wD))[i]? =some (wD (y.sg.getD i dd)):=zJ wD y.sg i hi';have e:=fW wD y.sg i hi';have u:=zk (y.sg.getD i dd) (by have:=h.gb (y.sg.getD i dd) QT;omega) (by have:=h.gb (y.sg.getD i dd) QT;omega);generalize (y.sg.getD i dd)=t,dI i (y.sg.map wD)=xs,dI (i+1) (y.sg.map wD)=ys at *;subst e;refine zP u ?_;rfl
  ·(refine zP L ?_)
   refine zM ((y.sv.map xZ).length) [1013,1,2,1011,1012] [1,2,1011,1012] [1,2,54] [55,1,2,54] Z (λi T U=>⟨(55,iA i)::T,(1013,.arr 3 (dI i (y.sv.map xZ)) false)::U⟩) (Lq ?_ ?_)
   .intro i hi;have hi':i<ln y.sv:=by omega
    have z:(dI i (y.sv.map xZ))[i]? =some (xZ (y.sv.getD i dd)):=zJ xZ y.sv i hi';have e:=fW xZ y.sv i hi';have u:=PR (y.sv.getD i dd) ⟨by have:=h.sb (y.sv.getD i dd) QT;omega⟩;generalize (y.sv.getD i dd)=t,dI i (y.sv.map xZ)=xs,dI (i+1) (y.sv.map xZ)=ys at *;subst e;refine zP u ?_;rfl
   ·(refine yB (xH M O) ?_)
    exact zV [1011,1012,1013,1014] Z Z Z Z
def Fc {l:List AV} {y:Cy} (k:zO n l [] (OY y) (OZ y)):zO n l [] (vN y) []:=by
 refine k.frz [] ?_ Z Z
 show AV.agg [zE xC y.c.js,zE wP y.c.ags,iA y.c.per,iA y.c.cap,iA y.c.hold,iA y.c.lock,bA y.rf,iA y.ga,.sl false (py (y.ds.map zN).length (y.ds.map zN)),.sl false (py (y.sg.map wD).length (y.sg.map wD)),.sl false (py (y.sv.map xZ).length (y.sv.map xZ)),.sl false (py (y.st.map iA).length (y.st.map iA)),zE wE y.vw]=_
 rw[zAa,zAa,zAa,zAa];rfl
def ZE (y:Cy) (h:xw y):zO 44 [vN y] [] (vN y) []:=Fc (VZ y h)
def Gq (j:Jn) (h:ln j.ph<=8):zO 79 [xC j] [] (.agg [bA true,bA false,.ref 1021 0 (j.ph.map yU).length,.ref 1022 0 (j.ph.map yU).length]) [(1021,.arr 1 (List.replicate (j.ph.map yU).length (iA 0)) false),(1022,.arr 1 (List.replicate (j.ph.map yU).length (iA 0)) false)]:=by
 have hl:=zA yU j.ph;unfold xC zE;generalize j.ph.map yU=P at *;refine eM call79 λF hF=>?_
 (repeat' (first|refine qU ?_|apply yY|apply xN|intro hc|(apply zG;first|(apply fY;first|refine aO 1021 tok Z Z Z Z Z Z Z Z Z Z Z Z Z zB zB Z Z Z ?_|refine aO 1022 tok Z Z Z Z Z Z Z Z Z Z Z Z Z zB zB Z Z Z ?_))|fail))
 exact zV [1021,1022] Z Z Z Z
def Dp (p:Ph) (l:Li):Int:=if l.lamp=1 then max (Dd p-1-l.tk) 0 else if l.lamp=2 then p.yel-1-l.tk else if l.lamp=3 then p.red-1-l.tk else 0
def ww (l:Li):Int:=if l.lamp=1\/l.lamp=2 then l.lamp else 0
def Ii (p:Ph) (h:Sw p) (l:Li) (A: -1000000000000<=l.tk/\l.tk<=1000000000000) (y: -1000<=Dd p/\Dd p<=1000) (B: -1000<=p.yel/\p.yel<=1000) (z: -1000<=p.red/\p.red<=1000):zO 153 [yU p,yX l] [] (iA (Dp p l)) []:=by
 have c:=Cd p h;unfold Dp;generalize Dd p=n at *;by_cases h1:l.lamp=1
 .rw[Os h1];refine eM call153 λF hF=>?_
  exact nl c
 rw[hW h1];by_cases h2:l.lamp=2
 .rw[Os h2];refine eM call153 λF hF=>?_
  exact mx
 rw[hW h2];by_cases u:l.lamp=3
 .rw[Os u];refine eM call153 λF hF=>?_
  exact mx
 .rw[hW u];refine eM call153 λF hF=>?_
  exact mx
def KO (s:Sg) (n i:Nat):List Int:=QI (λp _=>ww (xI s.c p)) (pg n 0) i
def FT (j:Jn) (s:Sg) (n i:Nat):List Int:=QI (λp _=>Dp (zS j p) (xI s.c p)) (pg n 0) i
def VP (j:Jn) (s:Sg) (v:Sv):Vw:=if s.lat=true then WU (ln j.ph) else⟨false,v.ph != -1,KO s (ln j.ph) (ln j.ph),FT j s (ln j.ph) (ln j.ph)⟩
def T8 (n:Nat):pg n (iA 0)=(pg n (0:Int)).map iA:=by simp
theorem Hi (j:Jn) (J:JV j) (s:Sg) (C:CV j s.c) (v:Sv):zO 83 [xC j,wD s,xZ v] [] (wE (VP j s v)) []:=by
 have k:=Gq j J.n.2;have hl:=zA yU j.ph;have hn:=J.n;have V:(s.c.li.map yX).length=ln j.ph:=by rw[f7];exact C.n
 unfold VP;rw[T8]at k;unfold wD xZ
 cases M:s.lat with
 |true=>
  rw[Os Z];unfold xC at *;refine eM call83 λF hF=>?_
  refine zP k ?_;refine zH [] Z Z ?_ Z
  show AV.agg [bA true,bA false,.sl false (py (j.ph.map yU).length ((pg (j.ph.map yU).length (0:Int)).map iA)),.sl false (py (j.ph.map yU).length ((pg (j.ph.map yU).length (0:Int)).map iA))]=_
  rw[zAl yE,hl];rfl
 | false=>
  rw[hW zAs];have e1:(pg (j.ph.map yU).length (0:Int)).map iA=(KO s (ln j.ph) 0).map iA:=by unfold KO;rw[kC,hl]
  have G:(pg (j.ph.map yU).length (0:Int)).map iA=(FT j s (ln j.ph) 0).map iA:=by unfold FT;rw[kC,hl]
  have k:zO 79 [xC j] [] (.agg [bA true,bA false,.ref 1021 0 (j.ph.map yU).length,.ref 1022 0 (j.ph.map yU).length]) [(1021,.arr 1 ((KO s (ln j.ph) 0).map iA) false),(1022,.arr 1 ((FT j s (ln j.ph) 0).map iA) false)]:=by rw[<-e1,<-G];exact k
  clear e1 G;have u:∀i,((KO s (ln j.ph) i).map iA).length=ln j.ph:=λi=>by rw[f7];unfold KO;rw[vI,zB1]
  have y:∀i,((FT j s (ln j.ph) i).map iA).length=ln j.ph:=λi=>by rw[f7];unfold FT;rw[vI,zB1]
  have I:∀i,i<ln j.ph->(KO s (ln j.ph) (i+1)).map iA=((KO s (ln j.ph) i).map iA).set i (iA (ww (xI s.c i))):=λi hi=>by unfold KO;rw[uC _ _ _ _ (by rw[zB1];exact hi)]
  have L:∀i,i<ln j.ph->(FT j s (ln j.ph) (i+1)).map iA=((FT j s (ln j.ph) i).map iA).set i (iA (Dp (zS j i) (xI s.c i))):=λi hi=>by unfold FT;rw[uC _ _ _ _ (by rw[zB1];exact hi)]
  unfold xC zE at *;refine eM call83 λF hF=>?_
  refine zP k ?_;refine zM ((j.ph.map yU).length) [1021,1022,4,6,7] [4,6,7] [4,6,7,22,23] [24,4,6,7,22,23] Z (λi T U=>⟨(24,iA i)::T,(1021,.arr 1 ((KO s (ln j.ph) i).map iA) false)::(1022,.arr 1 ((FT j s (ln j.ph) i).map iA) false)::U⟩) (Lq ?_ ?_)
  .intro i hi;have hi':i<ln j.ph:=by omega
   have hy:(j.ph.map yU)[i]? =some (yU (zS j i)):=zJ yU j.ph i hi';have hz:(s.c.li.map yX)[i]? =some (yX (xI s.c i)):=zJ yX s.c.li i (by have:=C.n;omega);have ht:=J.ti i hi';have hv:=C.k i hi';have W:=u i;have X:=y i;have R:=I i hi';have S:=L i hi'
   have z: -1000000000000<=(xI s.c i).tk/\(xI s.c i).tk<=1000000000000:=by
    unfold AW at hv
    repeat' split at hv
    all_goals (first|(rw[zAg]at hv;omega)|cases hv)
   have E:=Ii (zS j i) ⟨zB,zB,zB,zB⟩ (xI s.c i) z (by unfold Dd;omega) zB zB;rw[R,S];have Y:((KO s (ln j.ph) i).map iA)[i]? =some (iA ((KO s (ln j.ph) i).getD i dd)):=zJ iA _ i (by rw[f7]at W;omega);have a2:(((KO s (ln j.ph) i).map iA).set i (iA 0))[i]? =some (iA 0):=by rw[zDu,Os Z,Os zB]
   have a3:((FT j s (ln j.ph) i).map iA)[i]? =some (iA ((FT j s (ln j.ph) i).getD i dd)):=zJ iA _ i (by rw[f7]at X;omega);clear R S I L u y k;generalize (KO s (ln j.ph) i).getD i dd=v1,(FT j s (ln j.ph) i).getD i dd=v2,Dp (zS j i) (xI s.c i)=cc,(KO s (ln j.ph) i).map iA=A,(FT j s (ln j.ph) i).map iA=B at *;generalize zS j i=p at *;unfold ww;generalize xI s.c i=l at *;obtain⟨O,tk⟩:=l;dsimp only at *;by_cases h1:O=1
   .rw[Os (.inl h1),<-zEp (a:=iA 0)];refine zP E ?_;rfl
   by_cases h2:O=2
   .rw[Os (.inr h2),<-zEp (a:=iA 0)];refine zP E ?_;rfl
   .rw[hW (λh=>h.elim h1 h2)];refine zP E ?_;rfl
  ·(refine WW ?_)
   refine zH [] Z Z ?_ Z
   show AV.agg [bA false,bA (v.ph != -1),.sl false (py (j.ph.map yU).length ((KO s (ln j.ph) (j.ph.map yU).length).map iA)),.sl false (py (j.ph.map yU).length ((FT j s (ln j.ph) (j.ph.map yU).length).map iA))]=_
   rw[zAl (by rw[u];omega),zAl (by rw[y];omega),hl];rfl
theorem uw (j:Jn) (J:JV j) (s:Sg) (v:Sv):CK (VP j s v):=by
 have u:=J.n.2;unfold VP;split
 .exact m5 u
 .refine⟨by show(KO _ _ _).length<=8;unfold KO;rw[vI,zB1];exact u,by show(FT _ _ _ _).length<=8;unfold FT;rw[vI,zB1];exact u,λx hx=>?_⟩;obtain⟨i,hi,rfl⟩:=zCj hx;have h1:=uJ (λp (_:Int)=>ww (xI s.c p)) (pg (ln j.ph) 0) (ln j.ph) i
  grind [VP,KO,List.getElem?_eq_getElem,vI,ww,List.length_replicate]
def uA (n:Int):AV:= .s (.int .u32 n)
def Zf (a b:Int):Int:=IntKind.u32.wrap (BitVec.ofInt IntKind.u32.bits a ^^^ BitVec.ofInt IntKind.u32.bits b).toNat
def Lx (a b:Int):Int:=IntKind.u32.wrap (BitVec.ofInt IntKind.u32.bits a &&& BitVec.ofInt IntKind.u32.bits b).toNat
def Cp (a b:Int):Int:=IntKind.u32.wrap (BitVec.ofInt IntKind.u32.bits a ||| BitVec.ofInt IntKind.u32.bits b).toNat
def J4 (a:Int) (n:Nat):Int:=a.fdiv (2 ^ (min n IntKind.u32.bits))
def S8 (r:Int):Int:=if Lx r 1=1 then Zf (J4 r 1) 3988292384 else J4 r 1
def Q3 (r:Int):Nat->Int
 |0=>r
 |i+1=>S8 (Q3 r i)
def D9 (r x:Int):Int:=Q3 (Zf r x) 8
def Kx (r:Int) (l:List Int):Int:=l.foldl D9 r
def QP (l:List Int):Int:=IX .u32 (Kx (IX .u32 0) l)
def Gi (r:Int) (l:List Int) (x:Int):Kx r (l++[x])=D9 (Kx r l) x:=by simp[Kx]
section
variable {P:Program} {tm:List (Nat×AV)} {h:List (Nat×xM)} {tx ty:Nat} {x y:Operand} {m n:Int}
def EL (hx:yW (zL tm) x= .s (.int .u32 m)) (u:yW (zL tm) y= .s (.int .u32 n)):wZ P ⟨tm,h⟩ (.binOp .and tx x y ty) (.s (.int .u32 (Lx m n))) [] [] []:=HA hx u
def PM (hx:yW (zL tm) x= .s (.int .u32 m)) (u:yW (zL tm) y= .s (.int .u32 n)):wZ P ⟨tm,h⟩ (.binOp .or tx x y ty) (.s (.int .u32 (Cp m n))) [] [] []:=HB hx u
end
def Fq (r:Int) (l:List Int) (hl:ln l<=1000000) (hb:BY l):zO 301 [uA r,zE yA l] [] (uA (IX .u32 (Kx (IX .u32 r) l))) []:=by
 have B:=zA yA l;refine eM call301 λF hF=>?_
 (repeat' (first|refine qU ?_|apply yY|apply xN|intro hc|(apply zG;first|(apply Vj;refine wO (od Z) Z ?_))|fail))
 generalize IX .u32 r=y at *;refine zU (l) [] [] [11,12] [5,13,11,12] Z (λi gd T U=>⟨(5,uA (Kx y gd))::(13,iA i)::T,U⟩) (Lq ?_ ?_)
 .intro i gd x post hx hi;have E:=zY yA hx hi;have C:=zX hx hi;have A:=hb x (yQ hx);rw[Gi];clear hx;generalize Kx y gd=q at *;refine WW ?_;refine zM (8) [] [] [11,12,13] [5,21,11,12,13] Z (λi T U=>⟨(5,uA (Q3 (Zf q x) i))::(21,iA i)::T,U⟩) (Lq ?_ ?_)
  .intro k hk;have e:Q3 (Zf q x) (k+1)=S8 (Q3 (Zf q x) k):=rfl;rw[e];generalize Q3 (Zf q x) k=z at *;unfold S8;by_cases u:Lx z 1=1
   .rw[Os u]
    (repeat' (first|refine qU ?_|apply yY|apply xN|intro hc|(apply zG;first|(apply vE;refine wO (EL Z Z) Z ?_))|fail))
    rfl
   .rw[hW u]
    (repeat' (first|refine qU ?_|apply yY|apply xN|intro hc|(apply zG;first|(apply vE;refine wO (EL Z Z) Z ?_))|fail))
    rfl
  ·(refine WW ?_)
   rfl
 ·(repeat' (first|refine qU ?_|apply yY|apply xN|intro hc|(apply zG;first|(apply Vj;refine wO (od Z) Z ?_))|fail))
  exact zI
def sa (l:List Int) (hl:ln l<=1000000) (hb:BY l):zO 261 [zE yA l] [] (uA (QP l)) []:=by
 have c:=Fq 0 l hl hb;refine eM call261 λF hF=>?_
 exact nl c
def Ei (l:List Int):0<=QP l/\QP l<4294967296:=by
 unfold QP IX IntKind.wrap;simp[IntKind.signed,IntKind.bits];omega
def Yf (l:List Int):Int:=l.foldl (λn x=>Cp (IntKind.u32.wrap (n*2 ^ (min (8:Int).toNat IntKind.u32.bits))) x) 0
def qw (s:Int):List Int:=(pi 4).map λi:Nat=>IntKind.u8.wrap (s.fdiv (2 ^ (min (8*(3-(i:Int))).toNat IntKind.u32.bits)))
def IP (k:Int) (n:Nat):List Int:=[1,k,0,(n:Int)]
def ta (k:Int) (p:List Int):List Int:=90::165::(IP k (ln p)++p)++qw (QP (IP k (ln p)++p))
section
variable {P:Program} {TT:List TI} {K0:List Nat} {F:Fr K0} {m:Nat} {ops:Array Oper} {rest:List Oper} {Q:List FP->St->Prop} {tm:List (Nat×AV)} {h:List (Nat×xM)} {dr:Bool} {fs:List FP} {ty:Nat} {pos:String} {after:Array Edge} {t:Nat}
end
theorem I4 {k:Int} {p:List Int} (y:0<=k) (z:k<=255) (hb:BY p) (u:ln p<=200):BY (IP k (ln p)++p):=by grind [BY,IP]
def Jx (k:Int) (p:List Int) (y:0<=k) (z:k<=255) (hb:BY p) (u:ln p<=200):KU [iA k,zE yA p] [] (.tup [zE yA (ta k p),iA 0]) []:=wj
def Ix (y:Int):0<=IntKind.u8.wrap y/\IntKind.u8.wrap y<256:=by
 unfold IntKind.wrap;simp[IntKind.signed,IntKind.bits];omega
def kw (s:Int):List Int:=[IntKind.u8.wrap (s.fdiv (2 ^ (min (24:Int).toNat IntKind.u32.bits))),IntKind.u8.wrap (s.fdiv (2 ^ (min (16:Int).toNat IntKind.u32.bits))),IntKind.u8.wrap (s.fdiv (2 ^ (min (8:Int).toNat IntKind.u32.bits))),IntKind.u8.wrap s]
def Ec (k:Int) (p:List Int) (G:0<=k) (I:k<=255) (hb:BY p) (E:ln p<=200):∃q,q=90::165::(IP k (ln p)++p)++kw (QP (IP k (ln p)++p))/\BY q/\q.length=ln p+10/\zO 215 [iA k,zE yA p] [] (.tup [.ref 1031 0 (q.map yA).length,iA 0]) [(1031,.arr 1 (q.map yA) true)]:=by
 have C:=zA yA p;have hh:∀y,(p.map yA)[0]? =some y->ln y.cells=1:=yG _ _ (λ_=>rfl)
 have A:IntKind.u8.wrap (wY (((p.map yA).length:Nat):Int) 8)=0:=by
  have:wY (((p.map yA).length:Nat):Int) 8=0:=by
   unfold wY;rw[f7,zCb _ xG]
   show(ln p:Int)/256=0
   omega
  rw[this];rfl
 have u:=I4 G I hb E;have z:=sa (IP k (ln p)++p) (by unfold IP;simp;omega) u
 have z:zO 261 [.sl false ((([AV.s (.int .u8 90),.s (.int .u8 165),.s (.int .u8 1),.s (.int .u8 k),.s (.int .u8 (IntKind.u8.wrap (wY (((p.map yA).length:Nat):Int) 8))),.s (.int .u8 (((p.map yA).length:Nat):Int))]++p.map yA).drop 2).take (([AV.s (.int .u8 90),.s (.int .u8 165),.s (.int .u8 1),.s (.int .u8 k),.s (.int .u8 (IntKind.u8.wrap (wY (((p.map yA).length:Nat):Int) 8))),.s (.int .u8 (((p.map yA).length:Nat):Int))]++p.map yA).length-2))] [] (uA (QP (IP k (ln p)++p))) []:=by
  rw[A,f7];rw[zAl yE];exact z
 generalize QP (IP k (ln p)++p)=s at *;refine⟨90::165::(IP k (ln p)++p)++kw s,rfl,?_,?_,?_⟩
 .intro x hx
  rcases zAy.1 hx with hx|hx
  .simp only[zBx]at hx
   rcases hx with rfl|rfl|hx
   .omega
   .omega
   .exact u x hx
  .simp only[kw,zBx,List.not_mem_nil,or_false]at hx
   rcases hx with rfl|rfl|rfl|rfl<;>exact Ix _
 .simp[IP,kw]
 have B:(90::165::(IP k (ln p)++p)++kw s).map yA=([AV.s (.int .u8 90),.s (.int .u8 165),.s (.int .u8 1),.s (.int .u8 k),.s (.int .u8 (IntKind.u8.wrap (wY (((p.map yA).length:Nat):Int) 8))),.s (.int .u8 (((p.map yA).length:Nat):Int))]++p.map yA)++[.s (.int .u8 (IntKind.u8.wrap (s.fdiv (2 ^ (min (24:Int).toNat IntKind.u32.bits))))),.s (.int .u8 (IntKind.u8.wrap (s.fdiv (2 ^ (min (16:Int).toNat IntKind.u32.bits))))),.s (.int .u8 (IntKind.u8.wrap (s.fdiv (2 ^ (min (8:Int).toNat IntKind.u32.bits))))),.s (.int .u8 (IntKind.u8.wrap s))]:=by
  rw[A,f7];simp only[IP,kw,zAd,zBc,zBs,zDb,zC7,zA2];rfl
 rw[B];refine eM call215 λF hF=>?_
 (have gt:=z;(repeat' (first|refine gM ?_|apply yY|apply xN|intro hc|(apply zG;first|(apply yL;first|refine qH (nw:=[1031]) (xD tok 1031 (xs:=[_,_,_,_,_,_]) Z Z Z Z Z Z Z Z Z) Z Z Z ?_|refine wQ tok Z Z ?_)|(apply aN;refine YZ tok Z Z Z Z Z Z Z zB (by simp<;>omega) Z ?_))|refine SB ?_|fail))<;>clear gt)
 exact zV [1031] Z Z Z Z
def Ci (m:Ms) (h:Zz m):∃q,BY q/\q.length<=210/\zO 162 [yO m] [] (.tup [.ref 1031 0 (q.map yA).length,iA 0]) [(1031,.arr 1 (q.map yA) true)]:=by
 obtain⟨p,h1,h2,u⟩:=gz m h;have hk:=h.k;obtain⟨q,_,z,A,y⟩:=Ec m.kind p zB zB h1 h2;refine⟨q,z,zB,?_⟩;unfold yO at *;refine eM call162 λF hF=>?_
 refine yB (xH u y) ?_;exact zV [1031] Z Z Z Z
def EM (m:Ms) (h:Zz m):∃q,BY q/\q.length<=210/\zO 95 [yO m] [] (.ref 1031 0 (q.map yA).length) [(1031,.arr 1 (q.map yA) true)]/\zO 95 [yO m] [] (zE yA q) []:=by
 obtain⟨q,y,z,u⟩:=Ci m h;refine⟨q,y,z,?_,?_⟩
 .unfold yO at *;refine eM call95 λF hF=>?_
  refine zP u ?_;exact zV [1031] Z Z Z Z
 .unfold yO at *;refine eM call95 λF hF=>?_
  refine zP u ?_;exact zH [] Z Z (zAt (AV.sl false) zAa) Z
def EN (m:Ms) (h:Zz m):∃q,BY q/\q.length<=210/\zO 95 [yO m] [] (zE yA q) []:=by
 obtain⟨q,y,z,_,u⟩:=EM m h;exact⟨q,y,z,u⟩
def jP (l:List Ag):Nat->Int
 |0=>0
 |i+1=>jP l i+(l.getD i dd).ses
def LP (l:List Ag):Prop:=ln l<=4/\∀a∈l,1<=a.ses/\a.ses<=2
theorem LP.at (h:LP l) {i:Nat} (hi:i<ln l):1<=(l.getD i dd).ses/\(l.getD i dd).ses<=2:=by grind [LP]
theorem kG (h:LP l):∀i,i<=ln l->(i:Int)<=jP l i/\jP l i<=2*i
 |0,_=>⟨zCi _,zCi _⟩
 |i+1,hi=>by
  have h1:=kG h i zB;have h2:=h.at (i:=i) zB;unfold jP;omega
def Dq (c:Cf) (h:LP c.ags):zO 93 [vL c] [] (iA (jP c.ags (ln c.ags))) []:=by
 have u:=zA wP c.ags;have y:=h.1;unfold vL zE;refine eM call93 λF hF=>?_
 refine WW ?_;refine zM ((c.ags.map wP).length) [] [] [7,8] [3,9,7,8] Z (λi T U=>⟨(3,iA (jP c.ags i))::(9,iA i)::T,U⟩) (Lq ?_ ?_)
 .intro i hi;have A:=zJ wP c.ags i zB;have h2:=h.at (i:=i) zB;have hb:=kG h i zB;rw[show jP c.ags (i+1)=jP c.ags i+(c.ags.getD i dd).ses from Z];generalize jP c.ags i=z,c.ags.getD i dd=a at *;refine WW ?_;rfl
 .rw[u];exact mx
def AQ (l:List Ag) (g:Int):Nat->Int
 |0=>0
 |i+1=>if(i:Int)<g then AQ l g i+(l.getD i dd).ses else AQ l g i
theorem ia (h:LP l) (g:Int):∀i,i<=ln l->0<=AQ l g i/\AQ l g i<=2*i
 |0,_=>⟨zCi _,zCi _⟩
 |i+1,hi=>by
  have h1:=ia h g i zB;have h2:=h.at (i:=i) zB;unfold AQ
  split<;>omega
def Cq (c:Cf) (h:LP c.ags) (g:Int):zO 94 [vL c,iA g] [] (iA (AQ c.ags g (ln c.ags))) []:=by
 have u:=zA wP c.ags;have A:=h.1;unfold vL zE;refine eM call94 λF hF=>?_
 refine WW ?_;refine zM ((c.ags.map wP).length) [] [] [1,9,10] [5,11,1,9,10] Z (λi T U=>⟨(5,iA (AQ c.ags g i))::(11,iA i)::T,U⟩) (Lq ?_ ?_)
 .intro i hi;have B:=zJ wP c.ags i zB;have h2:=h.at (i:=i) zB;have hb:=ia h g i zB;by_cases y:(i:Int)<g
  .rw[show AQ c.ags g (i+1)=AQ c.ags g i+(c.ags.getD i dd).ses from Os y];generalize AQ c.ags g i=z,c.ags.getD i dd=a at *;refine WW ?_;rfl
  .rw[show AQ c.ags g (i+1)=AQ c.ags g i from hW y];generalize AQ c.ags g i=z,c.ags.getD i dd=a at *;refine WW ?_;rfl
 .rw[u];exact mx
def IQ:List Ag->Int->Nat->Option (Nat×Int)
 | [],_,_=>none
 |a::l,s,i=>if s<a.ses then some (i,s)else IQ l (s-a.ses) (i+1)
theorem Bq (l:List Ag) (s:Int) (i:Nat) (h:i<ln l):IQ (l.drop i) s i=if s<(l.getD i dd).ses then some (i,s)else IQ (l.drop (i+1)) (s-(l.getD i dd).ses) (i+1):=by grind [IQ,List.getD,List.getElem_cons_drop]
def Za (l:List Ag) (s:Int):Int:=match IQ l s 0 with
 |some p=>p.1
 |none=>0
theorem Dc:∀(l:List Ag) (s:Int) (i:Nat) (p:Nat×Int),IQ l s i=some p->p.1<i+ln l
 | [],_,_,_,h=>by cases h
 |a::l,s,i,p,h=>by
  unfold IQ at h;split at h
  .cases h;simp only[zAp];omega
  .have:=Dc l _ _ p h;simp only[zAp];omega
def Hx (h:LP l) (s:Int):0<=Za l s/\Za l s<4:=by
 unfold Za;split
 .rename_i p u;have:=Dc l s 0 p u;have:=h.1;omega
 .omega
def Bi (c:Cf) (h:LP c.ags) (s:Int) (G: -1000<=s) (I:s<=1000):zO 97 [vL c,iA s] [] (iA (Za c.ags s)) []:=by
 have u:=zA wP c.ags;have C:=h.1;unfold Za vL zE;refine eM call97 λF hF=>?_
 refine WW ?_;refine zZ ((c.ags.map wP).length) [] [] [8,9] [1,10,8,9] Z (λi T U A=>∃(z:Int),(IQ c.ags s 0=IQ (c.ags.drop i) z i/\ -1000-2*(i:Int)<=z/\z<=1000)/\A=⟨(1,iA z)::(10,iA i)::T,U⟩) (Lp ?_ ?_ ?_)
 .exact⟨s,⟨rfl,zB,zB⟩,rfl⟩
 .rintro i st hi ⟨z,⟨hz,z0,z1⟩,rfl⟩;have E:=zJ wP c.ags i zB;have h2:=h.at (i:=i) zB;rw[Bq c.ags z i zB]at hz;generalize B:c.ags.drop (i+1)=D at *;generalize c.ags.getD i dd=a at *;by_cases y:z<a.ses
  .rw[Os y]at hz;rw[hz];exact mx
  .rw[hW y]at hz;refine WW ?_;exact⟨_,⟨hz,zB,zB⟩,rfl⟩
 .rintro st ⟨z,⟨hz,z0,z1⟩,rfl⟩;rw[u,zFd]at hz;rw[hz];exact mx
structure AR (e:Ev):Prop where
 k:1<=e.k/\e.k<=6
 s:0<=e.s/\e.s<=100
 a:0<=e.a/\e.a<=100
 b:0<=e.b/\e.b<=100
 y:BY e.y
 n:e.y.length<=1000
def Lh {k s a b:Int} {y:List Int} (hk:1<=k/\k<=6) (A:0<=s/\s<=100) (u:0<=a/\a<=100) (hb:0<=b/\b<=100) (B:BY y) (z:ln y<=1000):AR ⟨k,s,a,b,y⟩:=⟨hk,A,u,hb,B,z⟩
def hH:BY []:=λx hx=>by cases hx
theorem Gx (c:Cf) (s:Int) (s0:0<=s) (s1:s<=100) (M:Bool) (d:Dk):∃(e:Ev) (O:Dk),AR e/\rem O<=rem d/\zO 96 [.ptr 1000 0 0,vL c,iA s,bA M] [(1000,cB d)] (jS e) [(1000,cB O)]:=by
 have A:=yR d 6 zB zB;have W:=yN d 6 zB;have I:=wX d;generalize nx d 6=k,ad d=u at *;unfold jS zE;by_cases Y:k=0
 .refine⟨⟨2,s,0,0,[]⟩,u,Lh zB zB zB zB hH yE,I,?_⟩;refine eM call96 λF hF=>?_
  refine zP A ?_;exact zH [1000] Z Z Z Z
 by_cases h1:k=1
 .refine⟨⟨1,s,0,0,[]⟩,u,Lh zB zB zB zB hH yE,I,?_⟩;refine eM call96 λF hF=>?_
  refine zP A ?_;exact zH [1000] Z Z Z Z
 by_cases h2:k=2
 .have B:=yR u 4 zB zB;have C:=yN u 4 zB;have L:=wX u;have G:=yR (ad u) 50 zB zB;have R:=yN (ad u) 50 zB;have V:=wX (ad u);have S:=fO (nx (ad u) 50);refine⟨⟨4,0,nx u 4,0,eV (nx (ad u) 50)⟩,ad (ad u),Lh zB zB zB zB (UX _) (by rw[jT];omega),zB,?_⟩;generalize nx (ad u) 50=q at *;generalize nx u 4=p at *;generalize eV q=y at *;refine eM call96 λF hF=>?_
  refine yB (cX A B G S) ?_;exact zH [1000] Z Z Z Z
 cases M with
 |true=>
  refine⟨⟨6,0,0,0,[]⟩,u,Lh zB zB zB zB hH yE,I,?_⟩;refine eM call96 λF hF=>?_
  refine zP A ?_;exact zH [1000] Z Z Z Z
 |false=>
 by_cases h3:k=3
 .have B:=yR u 3 zB zB;have C:=yN u 3 zB;have L:=wX u;have G:=yR (ad u) 9 zB zB;have R:=yN (ad u) 9 zB;have V:=wX (ad u);refine⟨⟨5,0,nx u 3,nx (ad u) 9,[]⟩,ad (ad u),Lh zB zB zB zB hH yE,zB,?_⟩;generalize nx (ad u) 9=q at *;generalize nx u 3=p at *;refine eM call96 λF hF=>?_
  refine yB (qS A B G) ?_;exact zH [1000] Z Z Z Z
 by_cases h4:k=4
 .have B:=yR u 120 zB zB;have C:=yN u 120 zB;have L:=wX u;refine⟨⟨3,s,0,0,pg (150+nx u 120).toNat 0⟩,ad u,Lh zB zB zB zB (λx hx=>by have:=(zD1.1 hx).2;omega) (by rw[zB1];omega),zB,?_⟩;generalize nx u 120=q at *;refine eM call96 λF hF=>?_
  have E:150+q=(((150+q).toNat:Nat):Int):=by omega
  (have gt:=A;have gv:=B;(repeat' (first|refine qU ?_|apply yY|apply xN|intro hc|(apply zG;first|(apply fY;refine vd tok Z Z Z Z Z Z Z Z Z Z Z Z E zB zB Z Z Z ?_))|fail))<;>clear gt gv)
  have e:py (150+q).toNat (p5 0 (pg (150+q).toNat (yA 0)))=(pg (150+q).toNat 0).map yA:=by rw[zAr,zAl yE,zDr]
  exact zH [1000] Z Z (zAt (λz=>AV.agg [iA 3,iA s,iA 0,iA 0,.sl false z]) e) Z
 .have B:=Sl u 9 zB zB;have C:=yN u (9+1) zB;obtain⟨p1,p2,U⟩:=mb (ad u) (nx u (9+1)).toNat;have L:=wX u;refine⟨⟨3,s,0,0,(fM (ad u) (nx u (9+1)).toNat).1⟩,(fM (ad u) (nx u (9+1)).toNat).2,Lh zB zB zB zB U zB,zB,?_⟩;generalize (fM (ad u) (nx u (9+1)).toNat).1=y at *;generalize (fM (ad u) (nx u (9+1)).toNat).2=X at *;refine eM call96 λF hF=>?_
  refine yB (xH A B) ?_;exact zH [1000] Z Z Z Z
def KP (l:List Ev) (n:Nat):Prop:=ln l<=n/\∀e∈l,AR e
theorem KP.nil:KP [] 0:=⟨zAe _,λe h=>by cases h⟩
theorem KP.app {l:List Ev} (h:KP l n) {e:Ev} (u:AR e):KP (l++[e]) (n+1):=
 ⟨by have:=h.1;rw[zAf,zCf];omega,λx hx=>(zAy.1 hx).elim (h.2 x) λhx=>by rw[zA8.1 hx];exact u⟩
theorem KP.le {l:List Ev} {m:Nat} (h:KP l n) (u:n<=m):KP l m:=⟨zBf h.1 u,h.2⟩
def Fx (g v:Int) (u:0<=g/\g<256) (hv:0<=v/\v<=100):Zz ⟨4,g::0::eV (1000+g),[v,v.tmod 2],[]⟩:=by
 have h1:=zFi 2 hv.1;have h2:v.tmod 2<2:=zE0 v zB;exact⟨ym u zB (UX _),by simp[jT],by dsimp only;omega,.cons zB (.cons zB .nil),⟨0,zB,λh=>absurd Z h,rfl⟩,rfl⟩
structure TW (c:Cf):Prop where
 j:1<=c.js.length/\c.js.length<=4
 jv:∀j∈c.js,JV j
 a:1<=c.ags.length/\c.ags.length<=4
 av:∀a∈c.ags,ot a
 p:1<=c.per/\c.per<=600
 cp:0<=c.cap/\c.cap<=100
 h:1<=c.hold/\c.hold<=60
 l:0<=c.lock/\c.lock<=600
theorem TW.w {c:Cf} (h:TW c):FW c:=⟨h.j.2,λj hj=>(h.jv j hj).n⟩
theorem TW.ag {c:Cf} (h:TW c):LP c.ags:=⟨h.a.2,λa u=>(h.av a u).e⟩
def G4 (d:Dk) (r:Int) (y:0<=r/\r<=63):TW (GF d r):=by
 have B:=W5 d r;have h1:=yN d (4-1+1) zB;have h2:=yN (ad d) 4 zB;have z:=yN (ad (ad d)) (3-1+1) zB;have A:=yN (ad (ad (ad d))) 5 zB;refine⟨zB,λj hj=>?_,zB,λa u=>?_,?_,?_,?_,?_⟩
 .rw[Wl]at hj;obtain⟨e,rfl⟩:=Ad _ _ j hj;exact Jy e
 .obtain⟨i,hi,rfl⟩:=zCj u;have:=(uz d r y (i:Int) zB zB).1.v;rw[show(i:Int).toNat=i from Z]at this;rw[show(GF d r).ags[i]=(GF d r).ags.getD i dd by simp[qd,hi]];exact this
 all_goals (unfold GF;dsimp only;omega)
def Xf (c:Cf) (h:TW c):zO 78 [vL c] [] (bA true) []:=by
 have hj:=h.j;have L:=h.a;have z:=zA xC c.js;have y:=zA wP c.ags;have B:=dR ((c.js.map xC).length:Int) 1 4 zB;have w2:=dR ((c.ags.map wP).length:Int) 1 4 zB;have C:=dR c.per 1 600 h.p;have E:=dR c.cap 0 100 h.cp;have G:=dR c.hold 1 60 h.h;have I:=dR c.lock 0 600 h.l;unfold vL zE;refine eM call78 λF hF=>?_
 refine yB (xH B w2) ?_;refine zM ((c.js.map xC).length) [1] [1] [1,20,21] [22,1,20,21] Z (λi T U=>⟨(22,iA i)::T,U⟩) (Lq ?_ ?_)
 .intro i hi;have A:=zJ xC c.js i zB;have u:=QF _ (h.jv _ (zQ c.js i zB));generalize c.js.getD i dd=j at *;refine zP u ?_;rfl
 ·(refine WW ?_)
  refine zM ((c.ags.map wP).length) [1] [1] [1,31,32] [33,1,31,32] Z (λi T U=>⟨(33,iA i)::T,U⟩) (Lq ?_ ?_)
  .intro i hi;have A:=zJ wP c.ags i zB;have u:=Yg _ (h.av _ (zQ c.ags i zB));generalize c.ags.getD i dd=a at *;refine zP u ?_;rfl
  .exact ng (cX C E G I)
def XC (c:Cf) (i:Nat):List xU:=(pi i).map λk:Nat=>TL (k:Int) (c.ags.getD k dd) (c.ags.getD k dd).ses.toNat
def aU (j:Jn):Sv:=DP (ln j.ph)
def XD (c:Cf):Cy:=⟨c,false,0,XC c (ln c.ags),c.js.map qA,c.js.map aU,c.js.map λ_=> -1,c.js.map λj=>VP j (qA j) (aU j)⟩
theorem Ai (c:Cf) (h:TW c):zO 33 [vL c] [] (vN (XD c)) []:=by
 have C:=Xf c h;have hj:=h.j;have ha:=h.a;have A:=zA xC c.js;have z:=zA wP c.ags;have y:∀i,((XC c i).map zN).length=i:=λi=>by simp[XC]
 have u:vN (XD c)= .agg [zE xC c.js,zE wP c.ags,iA c.per,iA c.cap,iA c.hold,iA c.lock,bA false,iA 0,zE zN (XC c (ln c.ags)),zE wD (c.js.map qA),zE xZ (c.js.map aU),zE iA (c.js.map λ_=> -1),zE wE (c.js.map λj=>VP j (qA j) (aU j))]:=rfl;rw[u];unfold vL zE at *;refine eM call33 λF hF=>?_
 refine zP C ?_;refine uY 3 8 1011 17 Z Z Z Z Z ?_;refine zM ((c.ags.map wP).length) [3,1011,1,2] [1,2] [1,2,3,35,36] [37,1,2,3,35,36] Z (λi T U=>⟨(37,iA i)::T,(3,.box [.sl false (c.js.map xC),.sl false (c.ags.map wP),iA c.per,iA c.cap,iA c.hold,iA c.lock,bA false,iA 0,.ref 1011 0 ((XC c i).map zN).length,.s (.slice none 0 0),.s (.slice none 0 0),.s (.slice none 0 0),.s (.slice none 0 0)])::(1011,.arr 17 ((XC c i).map zN) true)::U⟩) (Lq ?_ ?_)
 .intro i hi;have L:=zJ wP c.ags i zB;have R:=(Rw (i:Int) _ (h.av _ (zQ c.ags i zB))).1;have e:(XC c (i+1)).map zN=(XC c i).map zN++[zN (TL (i:Int) (c.ags.getD i dd) (c.ags.getD i dd).ses.toNat)]:=by unfold XC;rw[zB4,zAd,zAd];rfl
  have y:=y i;rw[e];clear C u e;generalize TL (i:Int) (c.ags.getD i dd) (c.ags.getD i dd).ses.toNat=dk at *;generalize c.ags.getD i dd=a at *;generalize (XC c i).map zN=X at *;unfold zN wG at*
  (have gt:=R;(repeat' (first|refine gM ?_|apply yY|apply xN|intro hc|(apply zG;first|(apply yL;refine wQ tok Z Z ?_))|refine SB ?_|fail))<;>clear gt)
  rfl
 ·(refine WW ?_)
  refine uY 3 9 1012 5 Z Z Z Z Z ?_;refine uY 3 10 1013 3 Z Z Z Z Z ?_;refine uY 3 11 1014 1 Z Z Z Z Z ?_;refine uY 3 12 1015 4 Z Z Z Z Z ?_;rw[z];refine zM ((c.js.map xC).length) [3,1012,1013,1014,1015,2,1011] [2,1011] [2,3,52,53] [54,2,3,52,53] Z (λi T U=>⟨(54,iA i)::T,(3,.box [.sl false (c.js.map xC),.sl false (c.ags.map wP),iA c.per,iA c.cap,iA c.hold,iA c.lock,bA false,iA 0,.ref 1011 0 ((XC c (ln c.ags)).map zN).length,.ref 1012 0 (((c.js.take i).map qA).map wD).length,.ref 1013 0 (((c.js.take i).map aU).map xZ).length,.ref 1014 0 ((c.js.take i).map λ_=>iA (-1)).length,.ref 1015 0 (((c.js.take i).map λj=>VP j (qA j) (aU j)).map wE).length])::(1012,.arr 5 (((c.js.take i).map qA).map wD) true)::(1013,.arr 3 (((c.js.take i).map aU).map xZ) true)::(1014,.arr 1 ((c.js.take i).map λ_=>iA (-1)) true)::(1015,.arr 4 (((c.js.take i).map λj=>VP j (qA j) (aU j)).map wE) true)::U⟩) (Lq ?_ ?_)
  .intro i hi;have hi':i<ln c.js:=by omega
   have L:=zJ xC c.js i hi';have J:=h.jv _ (zQ c.js i hi')
   have E:c.js.take (i+1)=c.js.take i++[c.js.getD i dd]:=by
    rw[zAk,zAu hi',zCo,zCd hi']
   have I:(c.js.take i).length<=4:=by rw[zA0];omega
   have M:=vk _ J;have G:=ay (c.js.getD i dd).ph.length JC;have O:=Hi _ J (qA (c.js.getD i dd)) (Ld J) (aU (c.js.getD i dd));have B:((c.js.getD i dd).ph.map yU).length=(c.js.getD i dd).ph.length:=f7 ..;rw[E];simp only[zAd,zBc,zBs];have m1:(((c.js.take i).map qA).map wD).length=(c.js.take i).length:=by simp
   have m2:(((c.js.take i).map aU).map xZ).length=(c.js.take i).length:=by simp
   have m3:((c.js.take i).map λ_=>iA (-1)).length=(c.js.take i).length:=by simp
   have m4:(((c.js.take i).map λj=>VP j (qA j) (aU j)).map wE).length=(c.js.take i).length:=by simp
   rw[show DP (c.js.getD i dd).ph.length=aU (c.js.getD i dd)from Z,<-B]at G;clear E u C;generalize VP (c.js.getD i dd) (qA (c.js.getD i dd)) (aU (c.js.getD i dd))=w at *;generalize qA (c.js.getD i dd)=s at *;generalize aU (c.js.getD i dd)=v at *;generalize c.js.getD i dd=j at *;generalize ((c.js.take i).map qA).map wD=S,((c.js.take i).map aU).map xZ=V,(c.js.take i).map (λ_=>iA (-1))=W,((c.js.take i).map λj=>VP j (qA j) (aU j)).map wE=Y at *;unfold xC zE wD xZ wE at*
   (have gt:=M;have gv:=G;have ic:=O;(repeat' (first|refine gM ?_|apply yY|apply xN|intro hc|(apply zG;first|(apply yL;refine wQ tok Z Z ?_))|refine SB ?_|fail))<;>clear gt gv ic)
   rfl
  .rw[A,zAa];refine WW ?_;refine zH [] Z Z ?_ Z
   show AV.agg [.sl false (c.js.map xC),.sl false (c.ags.map wP),iA c.per,iA c.cap,iA c.hold,iA c.lock,bA false,iA 0,.sl false (py ((XC c (ln c.ags)).map zN).length (p5 0 ((XC c (ln c.ags)).map zN))),.sl false (py ((c.js.map qA).map wD).length (p5 0 ((c.js.map qA).map wD))),.sl false (py ((c.js.map aU).map xZ).length (p5 0 ((c.js.map aU).map xZ))),.sl false (py (c.js.map λ_=>iA (-1)).length (p5 0 (c.js.map λ_=>iA (-1)))),.sl false (py ((c.js.map λj=>VP j (qA j) (aU j)).map wE).length (p5 0 ((c.js.map λj=>VP j (qA j) (aU j)).map wE)))]=_
   rw[zAr,zAa,zAr,zAa,zAr,zAa,zAr,zAa,zAr,zAa,show(c.js.map λ_=>iA (-1))=(c.js.map λ_=>(-1:Int)).map iA by rw[zFr];rfl]
def Ex (j:Int) (x:Lg):zO 160 [xK x,.ptr 5 0 0] [(5,.box [iA j])] (bA (x.jn==j)) [(5,.box [iA j])]:=by
 refine eM call160 λF hF=>?_
 refine WW ?_;exact zV [5] Z Z Z Z
def Dx (j:Int) (l:List Lg) (hb:ln l<=1000):zO 159 [zE xK l,.fn 160 [.ptr 5 0 0]] [(5,.box [iA j])] (iA (OF (λr:Lg=>r.jn==j) l)) [(5,.box [iA j])]:=by
 have hl:=zA xK l;refine eM call159 λF hF=>?_
 refine WW ?_;refine kU (l) [5] [5] [0,1,7] [8,0,1,7] Z (λi gd T U C=>(∀y∈gd,(y.jn==j)=false)/\C=⟨(8,iA i)::T,U⟩) (Lp ?_ ?_ ?_)
 .exact⟨by simp,rfl⟩
 .rintro i gd x post st hx hi ⟨hp,rfl⟩;have z:=zY xK hx hi;have B:=zX hx hi;have c:=Ex j x;have u:=GU (p:=λr:Lg=>r.jn==j) hx hp
  cases A:(x.jn==j)<;>rw[A]at c
  .clear hx u;refine zP c ?_;exact⟨λy z=>by simp only[zAy,zA8]at z;rcases z with z|rfl;exact hp y z;exact A,rfl⟩
  .rw[u A,hi];clear hx u;refine zP c ?_;exact zV [5] Z Z Z Z
 .rintro st ⟨hp,rfl⟩;rw[BI hp];refine WW ?_;exact zV [5] rfl rfl rfl rfl
def NA (u j:Int) (x:Rq):List Cl:=if OF (λr:Lg=>r.jn==j) x.legs<0 then []else if(x.legs.getD (OF (λr:Lg=>r.jn==j) x.legs).toNat dd).sc= -1 then []else [⟨u,x.id,(x.legs.getD (OF (λr:Lg=>r.jn==j) x.legs).toNat dd).ph,x.cls,(x.legs.getD (OF (λr:Lg=>r.jn==j) x.legs).toNat dd).sc⟩]
def jL (u j:Int) (l:List Rq):List Cl:=(l.map (NA u j)).flatten
theorem zj (u j:Int) (x:Rq):(NA u j x).length<=1:=by grind [NA]
def KQ (u j:Int) (l:List Rq) (x:Rq):jL u j (l++[x])=jL u j l++NA u j x:=by simp[jL]
theorem gG (u j:Int):∀l:List Rq,(jL u j l).length<=ln l
 | []=>zAe _
 |x::l=>by
  have h1:=zj u j x;have h2:=gG u j l;have e:jL u j (x::l)=NA u j x++jL u j l:=rfl;rw[e,zAf,zAp];omega
def KR (l:List Rq) (u j:Int) (O:ln l<=1000) (hb:∀r∈l,ln r.legs<=1000):zO 89 [zE yS l,iA u,iA j] [] (zE uK (jL u j l)) []:=by
 have hl:=zA yS l;refine eM call89 λF hF=>?_
 refine WW ?_;refine zW 7 1001 5 Z Z Z ?_;refine zU (l) [1001,5] [5] [1,5,12,13] [7,14,1,5,12,13] Z (λi gd T U=>⟨(7,.ref 1001 0 ((jL u j gd).map uK).length)::(14,iA i)::T,(1001,.arr 5 ((jL u j gd).map uK) true)::U⟩) (Lq ?_ ?_)
 .intro i gd x post hx hi;have S:=zY yS hx hi;have E:=zX hx hi;have z:=Dx j x.legs (hb x (yQ hx));have R:=gG u j gd;have I:((jL u j gd).map uK).length=(jL u j gd).length:=f7 ..;have G:ln gd<=ln l:=by rw[hx];simp
  have L:(x.legs.map xK).length=ln x.legs:=f7 ..;rw[KQ,zAd]
  have C: -1<=OF (λr:Lg=>r.jn==j) x.legs/\(0<=OF (λr:Lg=>r.jn==j) x.legs->OF (λr:Lg=>r.jn==j) x.legs<ln x.legs):=by
   cases B:x.legs.any (λr:Lg=>r.jn==j)with
   |true=>have:=Iz B;omega
   |false=>rw[OF,B,hW zAs];omega
  unfold NA;clear hx;generalize (jL u j gd).map uK=X at *;by_cases A:OF (λr:Lg=>r.jn==j) x.legs<0
  .rw[Os A,zBs,zA6];generalize OF (λr:Lg=>r.jn==j) x.legs=y at *;refine zP z ?_;rfl
  .rw[hW A];have M:=yC xK x.legs (OF (λr:Lg=>r.jn==j) x.legs) zB zB;generalize OF (λr:Lg=>r.jn==j) x.legs=y at *;generalize x.legs.getD y.toNat dd=g at *;by_cases h1:g.sc= -1
   .rw[Os h1,zBs,zA6];refine zP z ?_;rfl
   .rw[hW h1];refine zP z ?_;rfl
 ·(refine WW ?_)
  exact zH [] Z Z (zAt (AV.sl false) zAa) Z
def uO (j:Int) (l:List xU):List Cl:=(l.map λd=>jL d.rg.num j d.rq).flatten
def YJ (j:Int) (l:List xU) (d:xU):uO j (l++[d])=uO j l++jL d.rg.num j d.rq:=by simp[uO]
theorem bB (j:Int):∀l:List xU,(∀d∈l,ln d.rq<=1000)->(uO j l).length<=1000*ln l
 | [],_=>zAe _
 |d::l,h=>by
  have h1:=gG d.rg.num j d.rq;have h2:=bB j l (λx hx=>h x (by simp[hx]));have u:=h d yE;have e:uO j (d::l)=jL d.rg.num j d.rq++uO j l:=rfl;rw[e,zAf,zAp];omega
def Wf (c:Cf) (S:Bool) (ga:Int) (u:List xU) (j:Int) (hd:ln u<=1000) (hb:∀d∈u,cY d) (A B C D:List AV) (a b e f:Nat):
  zO 38 [eJ c S ga (zE zN u) (.ref 1012 0 a) (.ref 1013 0 b) (.ref 1014 0 e) (.ref 1015 0 f),iA j] [(1012,.arr 5 A false),(1013,.arr 3 B false),(1014,.arr 1 C false),(1015,.arr 4 D false)] (zE uK (uO j u)) [(1012,.arr 5 A false),(1013,.arr 3 B false),(1014,.arr 1 C false),(1015,.arr 4 D false)]:=by
 have hl:=zA zN u;unfold eJ;refine eM call38 λF hF=>?_
 refine WW ?_;refine zW 5 1001 5 Z Z Z ?_;refine zU (u) [1001,1012,1013,1014,1015] [1012,1013,1014,1015] [1,9,10] [5,11,1,9,10] Z (λi gd T U=>⟨(5,.ref 1001 0 ((uO j gd).map uK).length)::(11,iA i)::T,(1001,.arr 5 ((uO j gd).map uK) true)::U⟩) (Lq ?_ ?_)
 .intro i gd x post hx hi;have R:=zY zN hx hi;have E:=zX hx hi;have y:=hb x (yQ hx);have z:=KR x.rq x.rg.num j y.q y.g;have V:=bB j gd (λd hd=>(hb d md).q);have M:((uO j gd).map uK).length=(uO j gd).length:=f7 ..;have I:=gG x.rg.num j x.rq;have L:((jL x.rg.num j x.rq).map uK).length=(jL x.rg.num j x.rq).length:=f7 ..;have G:ln gd<=ln u:=by rw[hx];simp
  have O:=y.q;rw[YJ,zAd];clear hx;generalize (uO j gd).map uK=X at *;unfold zE at z;generalize jL x.rg.num j x.rq=Y at *;unfold zN wG at R;refine zP z ?_;rfl
 ·(refine WW ?_)
  exact zH [1012,1013,1014,1015] Z Z (zAt (AV.sl false) zAa) Z
def EO (a:Ag) (h:1<=a.ses/\a.ses<=2):zO 119 [wP a] [] (iA a.ses) []:=by
 refine eM call119 λF hF=>?_
 refine WW ?_;refine zH [] Z Z (zAt iA ?_) Z;omega
def yj (a k s:Nat):AV:= .agg [iA a,iA k,iA s]
def Vf (c:Cf) (a:Nat):List (Nat×xM):=[(1103,.box [iA a]),(1104,.box [zE xC c.js,zE wP c.ags,iA c.per,iA c.cap,iA c.hold,iA c.lock])]
def IR (c:Cf) (a:Nat):List (List AV):=(pi (c.ags.getD a dd).ses.toNat).map λk=>[yj a k ((jP c.ags a).toNat+k)]
def Cc (c:Cf) (a:Nat):zO 49 [vL c,iA a] [] (.fn 118 [.ptr 1104 0 0,.ptr 1103 0 0]) (Vf c a):=by
 unfold vL Vf;refine eM call49 λF hF=>?_
 repeat' (first|(apply zG;first|refine qH (eK (v:=AV.agg _) 1104 Z Z) Z Z Z ?_|refine qH (eK (v:=AV.s _) 1103 Z Z) Z Z Z ?_|refine vT tok Z Z ?_|apply qV)|(first|apply wF|apply wB|refine uW Z ?_|refine yT Z ?_|refine yH Z ?_|refine wL Z (λhc=>?_) λhc=>?_|apply xO|apply xP|apply wA|apply xE))
 exact zV [1103,1104] Z Z Z Z
def xj (c:Cf) (h:LP c.ags) (a:Nat) (O:a<ln c.ags):TF prog 118 [.ptr 1104 0 0,.ptr 1103 0 0] (Vf c a) (IR c a):=by
 have hl:=zA wP c.ags;have Y:=h.1;have L:=h.at O;refine VJ func118 Z (λargs w=>call118 args w) Z Z Z (λF y S I G=>?_);unfold Vf;have V:((c.ags.take (a:Int).toNat).map wP).length=a:=by rw[f7,zA0];omega
 have B:∀i,i<=a->jP (c.ags.take a) i=jP c.ags i:=λi=>by
  induction i with
  |zero=>intro _;rfl
  |succ i X=>
   intro hi;unfold jP;rw[X zB,zAk,zB0,Os zB,<-zAk]
 refine WW ?_;refine zM (a) [1103,1104] [1103,1104] [0,1,2,11,12] [4,13,1000000,0,1,2,11,12] Z (λi T U=>⟨(4,iA (jP c.ags i))::(13,iA i)::(1000000,.gh 0)::T,U⟩) (Lq ?_ ?_)
 .intro i hi
  have W:((c.ags.take (a:Int).toNat).map wP)[i]? =some (wP (c.ags.getD i dd)):=by
   show((c.ags.take a).map wP)[i]? =_
   rw[zAh,zB0,Os hi,zAk,zAu zB];rfl
  have h2:=h.at (i:=i) zB;have hb:=kG h i zB;have E:=EO (c.ags.getD i dd) h2;rw[show jP c.ags (i+1)=jP c.ags i+(c.ags.getD i dd).ses from Z];clear B L G;generalize jP c.ags i=z,c.ags.getD i dd=g at *;refine zP E ?_;rfl
 .have W:=zJ wP c.ags a O;have E:=EO (c.ags.getD a dd) L;have hb:=kG h a zB;obtain⟨u,A⟩:∃u:Nat,jP c.ags a=(u:Int):=⟨(jP c.ags a).toNat,zB⟩;obtain⟨N,hN⟩:∃N:Nat,(c.ags.getD a dd).ses=(N:Int):=⟨(c.ags.getD a dd).ses.toNat,zB⟩;have M:IR c a=(pi N).map λk=>[yj a k (u+k)]:=by unfold IR;rw[A,hN];rfl
  rw[A]at hb⊢;rw[hN]at E L;rw[M]at G⊢;clear M hN B;generalize c.ags.getD a dd=g at *;refine zP E ?_;refine zM (N) [1103,1104] [1103,1104] [0,2,4,27] [28,1000000,0,2,4,27] Z (λi T U=>⟨(28,iA i)::(1000000,.gh i)::T,U⟩) (Lq ?_ ?_)
  .intro k hk
   have C:((pi N).map λk=>[yj a k (u+k)])[k]? =some [yj a k (u+k)]:=by
    rw[zAh,zB2 hk];rfl
   have R:k<((pi N).map λk=>[yj a k (u+k)]).length:=by simp;exact hk
   rw[show yj a k (u+k)= .agg [iA (a:Int),iA (k:Int),iA ((u:Int)+k)]from by unfold yj;rw[show((u+k:Nat):Int)=(u:Int)+k by omega]]at C;generalize ((pi N).map λk=>[yj a k (u+k)])=xs at*
   (repeat' (first|refine qU ?_|apply yY|apply xN|intro hc|(apply zG;apply xJ;first|(apply We;refine FB I G Z Z C Z Z Z ?_ ?_))|(apply zG;first|refine SM ?_)|fail))
   .rfl
   .exact TG Z (.inr zB)
  ·(refine WW ?_)
   exact ZY Z (.inl yE)
def TX (b:List Int):Nat:=(b.getD 4 0).toNat*256+(b.getD 5 0).toNat
def Kh (b:List Int):Option (It×Nat):=
 if (ln b)=0 then none
 else if b.getD 0 0≠90\/(1<ln b/\b.getD 1 0≠165)then some (⟨2,0,[]⟩,1)
 else if (ln b)<6 then none
 else if 200<TX b then some (⟨7,0,[]⟩,1)
 else if (ln b)<TX b+10 then none
 else if QP ((b.drop 2).take (TX b+4))≠Yf ((b.drop (TX b+6)).take 4)then some (⟨4,0,[]⟩,1)
 else if b.getD 2 0≠1 then some (⟨3,0,[]⟩,TX b+10)
 else if b.getD 3 0<1\/22<b.getD 3 0 then some (⟨5,0,[]⟩,TX b+10)
 else some (⟨0,b.getD 3 0,(b.drop 6).take (TX b)⟩,TX b+10)
def Cx (o:Option (It×Nat)):AV:=match o with
 |none=> .tup [cF ⟨0,0,[]⟩,iA 0,bA false]
 |some x=> .tup [cF x.1,iA x.2,bA true]
theorem C9 {x y:Int} (hx:0<=x/\x<256) (u:0<=y/\y<256):lu (IntKind.i64.wrap (x*2 ^ (min (8:Int).toNat IntKind.i64.bits))) y=x*256+y:=by
 have h1:IntKind.i64.wrap (x*2 ^ (min (8:Int).toNat IntKind.i64.bits))=x*256:=by
  rw[show x*2 ^ (min (8:Int).toNat IntKind.i64.bits)=x*256 from Z];exact jX (k:= .i64) ⟨by show -9223372036854775808<=_;omega,by show _<=9223372036854775807;omega⟩
 rw[h1];obtain⟨a,rfl⟩:=zB7 hx.1;obtain⟨c,rfl⟩:=zB7 u.1;have h2:=GQ (a*256) c zB zB;have z:=zD3 (show c<2 ^ 8 by omega) a
 grind [lu,Nat.shiftLeft_eq]
theorem KS (b:List Int) (hb:BY b) (i:Nat) (hi:i<ln b):(b.map yA)[i]? =some (yA (b.getD i 0))/\0<=b.getD i 0/\b.getD i 0<256:=by grind [BY,yA,qd,List.getElem?_eq_getElem,List.getElem_mem]
section
variable (b:List Int) (hb:BY b) (hl:ln b<=1000000)
include hb hl
end
