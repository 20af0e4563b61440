/- Part 26. -/
import Derived.Test.YtaglbcjljlkjcaaGreatW25
namespace Go.Proofs.YtaglbcjljlkjcaaGreat.Av
open Tryz
set_option linter.all false
set_option maxRecDepth 4000
set_option maxHeartbeats 4000000
open List renaming length->ln,replicate->pb,range->pi,take->py,getD->p5
open Inhabited renaming default->dd
variable {l:List Ag}{n:Nat}
structure Cy where
 c:Cf
 rf:Bool
 f3:Int
 ds:List wC
 sg:List Sg
 sv:List Sv
 st:List Int
 vw:List Vw
instance:Inhabited wC:=⟨⟨⟨0,⟨[],0,0,[],0,0,0,0⟩,[],[],⟨0,0,0⟩⟩,[],[],[]⟩⟩
instance:Inhabited Sg:=⟨⟨⟨[],0,[],0⟩,false⟩⟩
instance:Inhabited Sv:=⟨⟨-1,0,[]⟩⟩
def aY (c:Cf) (u:Bool) (f3:Int) (a b s t v:AV):AV:= .agg [zE wJ c.js,zE uI c.ags,iA c.per,iA c.cap,iA c.hold,iA c.lock,bA u,iA f3,a,b,s,t,v]
def qY (y:Cy):AV:=aY y.c y.rf y.f3 (zE zM y.ds) (zE vE y.sg) (zE wW y.sv) (zE iA y.st) (zE vR y.vw)
def aR {y:Cy} (h:y.rf=false):qY y= .agg [zE wJ y.c.js,zE uI y.c.ags,iA y.c.per,iA y.c.cap,iA y.c.hold,iA y.c.lock,bA false,iA y.f3,zE zM y.ds,zE vE y.sg,zE wW y.sv,zE iA y.st,zE vR y.vw]:=by rw[<-h];rfl
def IU (y:Cy):AV:=aY y.c y.rf y.f3 (.ref 1011 0 (y.ds.map zM).length) (.ref 1012 0 (y.sg.map vE).length) (.ref 1013 0 (y.sv.map wW).length) (.ref 1014 0 (y.st.map iA).length) (zE vR y.vw)
def IV (y:Cy):List (Nat×xW):=[(1011,.arr 17 (y.ds.map zM) false),(1012,.arr 5 (y.sg.map vE) false),(1013,.arr 3 (y.sv.map wW) false),(1014,.arr 1 (y.st.map iA) false)]
structure P6 (y:Cy):Prop where
 d:y.ds.length<=1000
 db:∀d∈y.ds,dN d
 g:y.sg.length<=1000
 gb:∀s∈y.sg,s.c.li.length<=1000/\s.c.nx.length<=1000
 s:y.sv.length<=1000
 sb:∀s∈y.sv,s.en.length<=1000
 t:y.st.length<=1000
 v:y.vw.length<=1000
 vb:∀v∈y.vw,v.co.length<=1000/\v.cn.length<=1000
def DF (l:List wC) (hl:ln l<=1073741824):zN 105 [zE zM l] [] (.ref 1011 0 (l.map zM).length) [(1011,.arr 17 (l.map zM) false)]:=by
 have u:=zA zM l;refine eM call105 λF hF=>?_
 refine xH 0 Z (λcap hx=>?_) ?_
 .have:l=[]:=by simpa using hx
  subst this
  (repeat' (first|refine Zf ?_|apply yW|apply xI|intro hc|fail))
  refine qH 2 1011 17 Z Z Z (xL ?_);exact zP [1011] Z Z Z Z
 .repeat' (first|(apply zG;first|refine uL tok Z Z ?_|(apply wV;refine wM (xX tok (.inl ⟨rfl,rfl⟩) Z Z Z Z) Z ?_)|(apply yH;refine uU (nw:=[1011]) (yV tok 1011 (xs:=[]) Z Z Z Z Z Z Z Z Z) Z Z Z ?_)|(apply yC;refine vA tok Z Z Z Z Z Z Z (yM _ _ (λ_=>rfl)) Z Z Z zB Z ?_)|apply kP)|(first|apply xY|apply xR|refine vZ Z ?_|refine yR Z ?_|refine yD Z ?_|refine xZ Z (λhc=>?_) λhc=>?_|apply xJ|apply xL|apply xQ|apply xC))
  exact zP [1011] Z Z Z Z
def DG (l:List Sg) (hl:ln l<=1073741824):zN 107 [zE vE l] [] (.ref 1012 0 (l.map vE).length) [(1012,.arr 5 (l.map vE) false)]:=by
 have u:=zA vE l;refine eM call107 λF hF=>?_
 refine xH 0 Z (λcap hx=>?_) ?_
 .have:l=[]:=by simpa using hx
  subst this
  (repeat' (first|refine Zf ?_|apply yW|apply xI|intro hc|fail))
  refine qH 2 1012 5 Z Z Z (xL ?_);exact zP [1012] Z Z Z Z
 .repeat' (first|(apply zG;first|refine uL tok Z Z ?_|(apply wV;refine wM (xX tok (.inl ⟨rfl,rfl⟩) Z Z Z Z) Z ?_)|(apply yH;refine uU (nw:=[1012]) (yV tok 1012 (xs:=[]) Z Z Z Z Z Z Z Z Z) Z Z Z ?_)|(apply yC;refine vA tok Z Z Z Z Z Z Z (yM _ _ (λ_=>rfl)) Z Z Z zB Z ?_)|apply kP)|(first|apply xY|apply xR|refine vZ Z ?_|refine yR Z ?_|refine yD Z ?_|refine xZ Z (λhc=>?_) λhc=>?_|apply xJ|apply xL|apply xQ|apply xC))
  exact zP [1012] Z Z Z Z
def DH (l:List Sv) (hl:ln l<=1073741824):zN 109 [zE wW l] [] (.ref 1013 0 (l.map wW).length) [(1013,.arr 3 (l.map wW) false)]:=by
 have u:=zA wW l;refine eM call109 λF hF=>?_
 refine xH 0 Z (λcap hx=>?_) ?_
 .have:l=[]:=by simpa using hx
  subst this
  (repeat' (first|refine Zf ?_|apply yW|apply xI|intro hc|fail))
  refine qH 2 1013 3 Z Z Z (xL ?_);exact zP [1013] Z Z Z Z
 .repeat' (first|(apply zG;first|refine uL tok Z Z ?_|(apply wV;refine wM (xX tok (.inl ⟨rfl,rfl⟩) Z Z Z Z) Z ?_)|(apply yH;refine uU (nw:=[1013]) (yV tok 1013 (xs:=[]) Z Z Z Z Z Z Z Z Z) Z Z Z ?_)|(apply yC;refine vA tok Z Z Z Z Z Z Z (yM _ _ (λ_=>rfl)) Z Z Z zB Z ?_)|apply kP)|(first|apply xY|apply xR|refine vZ Z ?_|refine yR Z ?_|refine yD Z ?_|refine xZ Z (λhc=>?_) λhc=>?_|apply xJ|apply xL|apply xQ|apply xC))
  exact zP [1013] Z Z Z Z
def DI (l:List Int) (hl:ln l<=1073741824):zN 111 [zE iA l] [] (.ref 1014 0 (l.map iA).length) [(1014,.arr 1 (l.map iA) false)]:=by
 have u:=zA iA l;refine eM call111 λF hF=>?_
 refine xH 0 Z (λcap hx=>?_) ?_
 .have:l=[]:=by simpa using hx
  subst this
  (repeat' (first|refine Zf ?_|apply yW|apply xI|intro hc|fail))
  refine qH 2 1014 1 Z Z Z (xL ?_);exact zP [1014] Z Z Z Z
 .repeat' (first|(apply zG;first|refine uL tok Z Z ?_|(apply wV;refine wM (xX tok (.inl ⟨rfl,rfl⟩) Z Z Z Z) Z ?_)|(apply yH;refine uU (nw:=[1014]) (yV tok 1014 (xs:=[]) Z Z Z Z Z Z Z Z Z) Z Z Z ?_)|(apply yC;refine vA tok Z Z Z Z Z Z Z (yM _ _ (λ_=>rfl)) Z Z Z zB Z ?_)|apply kP)|(first|apply xY|apply xR|refine vZ Z ?_|refine yR Z ?_|refine yD Z ?_|refine xZ Z (λhc=>?_) λhc=>?_|apply xJ|apply xL|apply xQ|apply xC))
  exact zP [1014] Z Z Z Z
def DJ (y:Cy) (h:P6 y):zN 44 [qY y] [] (IU y) (IV y):=by
 have G:=DF y.ds (by have:=h.d;omega);have I:=DG y.sg (by have:=h.g;omega);have L:=DH y.sv (by have:=h.s;omega);have M:=DI y.st (by have:=h.t;omega);have O:=Yh y.vw h.v h.vb;have A:=zA zM y.ds;have B:=zA vE y.sg;have C:=zA wW y.sv;have E:=zA iA y.st;have hd:=h.d;have R:=h.g;have S:=h.s;unfold qY IU aY IV;refine eM call44 λF hF=>?_
 refine zS G ?_;refine zO ((y.ds.map zM).length) [1011,1,2] [1,2] [1,2,12] [13,1,2,12] Z (λi T U=>⟨(13,iA i)::T,(1011,.arr 17 (dR i (y.ds.map zM)) false)::U⟩) (Lq ?_ ?_)
 .intro i hi;have hi':i<ln y.ds:=by omega
  have z:(dR i (y.ds.map zM))[i]? =some (zM (y.ds.getD i dd)):=zJ zM y.ds i hi';have e:=cB zM y.ds i hi';have u:=MR (y.ds.getD i dd) (h.db _ QK);generalize (y.ds.getD i dd)=t,dR i (y.ds.map zM)=xs,dR (i+1) (y.ds.map zM)=ys at *;subst e;refine zS u ?_;rfl
 ·(refine zS I ?_)
  refine zO ((y.sg.map vE).length) [1012,1,2,1011] [1,2,1011] [1,2,33] [34,1,2,33] Z (λi T U=>⟨(34,iA i)::T,(1012,.arr 5 (dR i (y.sg.map vE)) false)::U⟩) (Lq ?_ ?_)
  .intro i hi;have hi':i<ln y.sg:=by omega
   have z:(dR i (y.sg.map vE))[i]? =some (vE (y.sg.getD i dd)):=zJ vE y.sg i hi';have e:=cB vE y.sg i hi';have u:=Kx (y.sg.getD i dd) (by have:=h.gb (y.sg.getD i dd) QK;omega) (by have:=h.gb (y.sg.getD i dd) QK;omega);generalize (y.sg.getD i dd)=t,dR i (y.sg.map vE)=xs,dR (i+1) (y.sg.map vE)=ys at *;subst e;refine zS u ?_;rfl
  ·(refine zS L ?_)
   refine zO ((y.sv.map wW).length) [1013,1,2,1011,1012] [1,2,1011,1012] [1,2,54] [55,1,2,54] Z (λi T U=>⟨(55,iA i)::T,(1013,.arr 3 (dR i (y.sv.map wW)) false)::U⟩) (Lq ?_ ?_)
   .intro i hi;have hi':i<ln y.sv:=by omega
    have z:(dR i (y.sv.map wW))[i]? =some (wW (y.sv.getD i dd)):=zJ wW y.sv i hi';have e:=cB wW y.sv i hi';have u:=GA (y.sv.getD i dd) ⟨by have:=h.sb (y.sv.getD i dd) QK;omega⟩;generalize (y.sv.getD i dd)=t,dR i (y.sv.map wW)=xs,dR (i+1) (y.sv.map wW)=ys at *;subst e;refine zS u ?_;rfl
   ·(refine yG (xV M O) ?_)
    exact zP [1011,1012,1013,1014] Z Z Z Z
def de {l:List AV} {y:Cy} (k:zN n l [] (IU y) (IV y)):zN n l [] (qY y) []:=by
 refine k.frz [] ?_ Z Z
 show AV.agg [zE wJ y.c.js,zE uI y.c.ags,iA y.c.per,iA y.c.cap,iA y.c.hold,iA y.c.lock,bA y.rf,iA y.f3,.sl false (py (y.ds.map zM).length (y.ds.map zM)),.sl false (py (y.sg.map vE).length (y.sg.map vE)),.sl false (py (y.sv.map wW).length (y.sv.map wW)),.sl false (py (y.st.map iA).length (y.st.map iA)),zE vR y.vw]=_
 rw[zAt,zAt,zAt,zAt];rfl
def Aj (y:Cy) (h:P6 y):zN 44 [qY y] [] (qY y) []:=de (DJ y h)
def Fs (j:Jn) (h:ln j.ph<=8):zN 79 [wJ j] [] (.agg [bA true,bA false,.ref 1021 0 (j.ph.map xN).length,.ref 1022 0 (j.ph.map xN).length]) [(1021,.arr 1 (List.replicate (j.ph.map xN).length (iA 0)) false),(1022,.arr 1 (List.replicate (j.ph.map xN).length (iA 0)) false)]:=by
 have hl:=zA xN j.ph;unfold wJ zE;generalize j.ph.map xN=P at *;refine eM call79 λF hF=>?_
 (repeat' (first|refine uT ?_|apply yW|apply xI|intro hc|(apply zG;first|(apply fP;first|refine bD 1021 tok Z Z Z Z Z Z Z Z Z Z Z Z Z zB zB Z Z Z ?_|refine bD 1022 tok Z Z Z Z Z Z Z Z Z Z Z Z Z zB zB Z Z Z ?_))|fail))
 exact zP [1021,1022] Z Z Z Z
def Vr (p:Ph) (l:Li):Int:=if l.lamp=1 then max (Be p-1-l.tk) 0 else if l.lamp=2 then p.yel-1-l.tk else if l.lamp=3 then p.red-1-l.tk else 0
def Xx (l:Li):Int:=if l.lamp=1\/l.lamp=2 then l.lamp else 0
def zk (p:Ph) (h:Fx p) (l:Li) (B: -1000000000000<=l.tk/\l.tk<=1000000000000) (z: -1000<=Be p/\Be p<=1000) (C: -1000<=p.yel/\p.yel<=1000) (A: -1000<=p.red/\p.red<=1000):zN 153 [xN p,xE l] [] (iA (Vr p l)) []:=by
 have c:=Ae p h;unfold Vr;generalize Be p=n at *;by_cases h1:l.lamp=1
 .rw[f5 h1];refine eM call153 λF hF=>?_
  exact ng c
 rw[Os h1];by_cases h2:l.lamp=2
 .rw[f5 h2];refine eM call153 λF hF=>?_
  exact ly
 rw[Os h2];by_cases u:l.lamp=3
 .rw[f5 u];refine eM call153 λF hF=>?_
  exact ly
 .rw[Os u];refine eM call153 λF hF=>?_
  exact ly
def KO (s:Sg) (n i:Nat):List Int:=aX (λp _=>Xx (xS s.c p)) (pb n 0) i
def EF (j:Jn) (s:Sg) (n i:Nat):List Int:=aX (λp _=>Vr (yF j p) (xS s.c p)) (pb n 0) i
def LK (j:Jn) (s:Sg) (v:Sv):Vw:=if s.lat=true then P4 (ln j.ph) else⟨false,v.ph != -1,KO s (ln j.ph) (ln j.ph),EF j s (ln j.ph) (ln j.ph)⟩
def Q9 (n:Nat):pb n (iA 0)=(pb n (0:Int)).map iA:=by simp
theorem gz (j:Jn) (J:JV j) (s:Sg) (C:CV j s.c) (v:Sv):zN 83 [wJ j,vE s,wW v] [] (vR (LK j s v)) []:=by
 have k:=Fs j J.n.2;have hl:=zA xN j.ph;have hn:=J.n;have W:(s.c.li.map xE).length=ln j.ph:=by rw[zAr];exact C.n
 unfold LK;rw[Q9]at k;unfold vE wW
 cases O:s.lat with
 |true=>
  rw[f5 Z];unfold wJ at *;refine eM call83 λF hF=>?_
  refine zS k ?_;refine zH [] Z Z ?_ Z
  show AV.agg [bA true,bA false,.sl false (py (j.ph.map xN).length ((pb (j.ph.map xN).length (0:Int)).map iA)),.sl false (py (j.ph.map xN).length ((pb (j.ph.map xN).length (0:Int)).map iA))]=_
  rw[zA1 zV,hl];rfl
 | false=>
  rw[Os zA7];have e1:(pb (j.ph.map xN).length (0:Int)).map iA=(KO s (ln j.ph) 0).map iA:=by unfold KO;rw[qN,hl]
  have I:(pb (j.ph.map xN).length (0:Int)).map iA=(EF j s (ln j.ph) 0).map iA:=by unfold EF;rw[qN,hl]
  have k:zN 79 [wJ j] [] (.agg [bA true,bA false,.ref 1021 0 (j.ph.map xN).length,.ref 1022 0 (j.ph.map xN).length]) [(1021,.arr 1 ((KO s (ln j.ph) 0).map iA) false),(1022,.arr 1 ((EF j s (ln j.ph) 0).map iA) false)]:=by rw[<-e1,<-I];exact k
  clear e1 I;have u:∀i,((KO s (ln j.ph) i).map iA).length=ln j.ph:=λi=>by rw[zAr];unfold KO;rw[wZ,zCq]
  have z:∀i,((EF j s (ln j.ph) i).map iA).length=ln j.ph:=λi=>by rw[zAr];unfold EF;rw[wZ,zCq]
  have L:∀i,i<ln j.ph->(KO s (ln j.ph) (i+1)).map iA=((KO s (ln j.ph) i).map iA).set i (iA (Xx (xS s.c i))):=λi hi=>by unfold KO;rw[vN _ _ _ _ (by rw[zCq];exact hi)]
  have M:∀i,i<ln j.ph->(EF j s (ln j.ph) (i+1)).map iA=((EF j s (ln j.ph) i).map iA).set i (iA (Vr (yF j i) (xS s.c i))):=λi hi=>by unfold EF;rw[vN _ _ _ _ (by rw[zCq];exact hi)]
  unfold wJ zE at *;refine eM call83 λF hF=>?_
  refine zS k ?_;refine zO ((j.ph.map xN).length) [1021,1022,4,6,7] [4,6,7] [4,6,7,22,23] [24,4,6,7,22,23] Z (λi T U=>⟨(24,iA i)::T,(1021,.arr 1 ((KO s (ln j.ph) i).map iA) false)::(1022,.arr 1 ((EF j s (ln j.ph) i).map iA) false)::U⟩) (Lq ?_ ?_)
  .intro i hi;have hi':i<ln j.ph:=by omega
   have hy:(j.ph.map xN)[i]? =some (xN (yF j i)):=zJ xN j.ph i hi';have hz:(s.c.li.map xE)[i]? =some (xE (xS s.c i)):=zJ xE s.c.li i (by have:=C.n;omega);have ht:=J.ti i hi';have hv:=C.k i hi';have Y:=u i;have x2:=z i;have S:=L i hi';have V:=M i hi'
   have E: -1000000000000<=(xS s.c i).tk/\(xS s.c i).tk<=1000000000000:=by
    unfold Ba at hv
    repeat' split at hv
    all_goals (first|(rw[zAx]at hv;omega)|cases hv)
   have G:=zk (yF j i) ⟨zB,zB,zB,zB⟩ (xS s.c i) E (by unfold Be;omega) zB zB;rw[S,V];have a1:((KO s (ln j.ph) i).map iA)[i]? =some (iA ((KO s (ln j.ph) i).getD i dd)):=zJ iA _ i (by rw[zAr]at Y;omega);have a2:(((KO s (ln j.ph) i).map iA).set i (iA 0))[i]? =some (iA 0):=by rw[zDz,f5 Z,f5 zB]
   have a3:((EF j s (ln j.ph) i).map iA)[i]? =some (iA ((EF j s (ln j.ph) i).getD i dd)):=zJ iA _ i (by rw[zAr]at x2;omega);clear S V L M u z k;generalize (KO s (ln j.ph) i).getD i dd=v1,(EF j s (ln j.ph) i).getD i dd=v2,Vr (yF j i) (xS s.c i)=cc,(KO s (ln j.ph) i).map iA=A,(EF j s (ln j.ph) i).map iA=B at *;generalize yF j i=p at *;unfold Xx;generalize xS s.c i=l at *;obtain⟨R,tk⟩:=l;dsimp only at *;by_cases h1:R=1
   .rw[f5 (.inl h1),<-zE2 (a:=iA 0)];refine zS G ?_;rfl
   by_cases h2:R=2
   .rw[f5 (.inr h2),<-zE2 (a:=iA 0)];refine zS G ?_;rfl
   .rw[Os (λh=>h.elim h1 h2)];refine zS G ?_;rfl
  ·(refine WW ?_)
   refine zH [] Z Z ?_ Z
   show AV.agg [bA false,bA (v.ph != -1),.sl false (py (j.ph.map xN).length ((KO s (ln j.ph) (j.ph.map xN).length).map iA)),.sl false (py (j.ph.map xN).length ((EF j s (ln j.ph) (j.ph.map xN).length).map iA))]=_
   rw[zA1 (by rw[u];omega),zA1 (by rw[z];omega),hl];rfl
theorem Wx (j:Jn) (J:JV j) (s:Sg) (v:Sv):ia (LK j s v):=by
 have u:=J.n.2;unfold LK;split
 .exact K7 u
 .refine⟨by show(KO _ _ _).length<=8;unfold KO;rw[wZ,zCq];exact u,by show(EF _ _ _ _).length<=8;unfold EF;rw[wZ,zCq];exact u,λx hx=>?_⟩;obtain⟨i,hi,rfl⟩:=zC8 hx;have h1:=vV (λp (_:Int)=>Xx (xS s.c p)) (pb (ln j.ph) 0) (ln j.ph) i
  grind [LK,KO,List.getElem?_eq_getElem,wZ,Xx,List.length_replicate]
def uA (n:Int):AV:= .s (.int .u32 n)
def Gg (a b:Int):Int:=IntKind.u32.wrap (BitVec.ofInt IntKind.u32.bits a ^^^ BitVec.ofInt IntKind.u32.bits b).toNat
def dz (a b:Int):Int:=IntKind.u32.wrap (BitVec.ofInt IntKind.u32.bits a &&& BitVec.ofInt IntKind.u32.bits b).toNat
def Ur (a b:Int):Int:=IntKind.u32.wrap (BitVec.ofInt IntKind.u32.bits a ||| BitVec.ofInt IntKind.u32.bits b).toNat
def O6 (a:Int) (n:Nat):Int:=a.fdiv (2 ^ (min n IntKind.u32.bits))
def P9 (r:Int):Int:=if dz r 1=1 then Gg (O6 r 1) 3988292384 else O6 r 1
def G5 (r:Int):Nat->Int
 |0=>r
 |i+1=>P9 (G5 r i)
def crB (r x:Int):Int:=G5 (Gg r x) 8
def cz (r:Int) (l:List Int):Int:=l.foldl crB r
def QH (l:List Int):Int:=HI .u32 (cz (HI .u32 0) l)
def yk (r:Int) (l:List Int) (x:Int):cz r (l++[x])=crB (cz r l) x:=by simp[cz]
section
variable {P:Program} {tm:List (Nat×AV)} {h:List (Nat×xW)} {tx ty:Nat} {x y:Operand} {m n:Int}
def DK (hx:yX (zK tm) x= .s (.int .u32 m)) (u:yX (zK tm) y= .s (.int .u32 n)):wX P ⟨tm,h⟩ (.binOp .and tx x y ty) (.s (.int .u32 (dz m n))) [] [] []:=PI hx u
def PE (hx:yX (zK tm) x= .s (.int .u32 m)) (u:yX (zK tm) y= .s (.int .u32 n)):wX P ⟨tm,h⟩ (.binOp .or tx x y ty) (.s (.int .u32 (Ur m n))) [] [] []:=HL hx u
end
def Es (r:Int) (l:List Int) (hl:ln l<=1000000) (hb:BY l):zN 301 [uA r,zE yA l] [] (uA (HI .u32 (cz (HI .u32 r) l))) []:=by
 have C:=zA yA l;refine eM call301 λF hF=>?_
 (repeat' (first|refine uT ?_|apply yW|apply xI|intro hc|(apply zG;first|(apply Ik;refine wM (We Z) Z ?_))|fail))
 generalize HI .u32 r=A at *;refine zU (l) [] [] [11,12] [5,13,11,12] Z (λi f4 T U=>⟨(5,uA (cz A f4))::(13,iA i)::T,U⟩) (Lq ?_ ?_)
 .intro i f4 x post hx hi;have G:=yJ yA hx hi;have E:=zX hx hi;have B:=hb x (xA hx);rw[yk];clear hx;generalize cz A f4=q at *;refine WW ?_;refine zO (8) [] [] [11,12,13] [5,21,11,12,13] Z (λi T U=>⟨(5,uA (G5 (Gg q x) i))::(21,iA i)::T,U⟩) (Lq ?_ ?_)
  .intro k hk;have e:G5 (Gg q x) (k+1)=P9 (G5 (Gg q x) k):=rfl;rw[e];generalize G5 (Gg q x) k=z at *;unfold P9;by_cases u:dz z 1=1
   .rw[f5 u]
    (repeat' (first|refine uT ?_|apply yW|apply xI|intro hc|(apply zG;first|(apply wV;refine wM (DK Z Z) Z ?_))|fail))
    rfl
   .rw[Os u]
    (repeat' (first|refine uT ?_|apply yW|apply xI|intro hc|(apply zG;first|(apply wV;refine wM (DK Z Z) Z ?_))|fail))
    rfl
  ·(refine WW ?_)
   rfl
 ·(repeat' (first|refine uT ?_|apply yW|apply xI|intro hc|(apply zG;first|(apply Ik;refine wM (We Z) Z ?_))|fail))
  exact zI
def Ub (l:List Int) (hl:ln l<=1000000) (hb:BY l):zN 261 [zE yA l] [] (uA (QH l)) []:=by
 have c:=Es 0 l hl hb;refine eM call261 λF hF=>?_
 exact ng c
def xk (l:List Int):0<=QH l/\QH l<4294967296:=by
 unfold QH HI IntKind.wrap;simp[IntKind.signed,IntKind.bits];omega
def Fg (l:List Int):Int:=l.foldl (λn x=>Ur (IntKind.u32.wrap (n*2 ^ (min (8:Int).toNat IntKind.u32.bits))) x) 0
def Vx (s:Int):List Int:=(pi 4).map λi:Nat=>IntKind.u8.wrap (s.fdiv (2 ^ (min (8*(3-(i:Int))).toNat IntKind.u32.bits)))
def IW (k:Int) (n:Nat):List Int:=[1,k,0,(n:Int)]
def Tb (k:Int) (p:List Int):List Int:=90::165::(IW k (ln p)++p)++Vx (QH (IW k (ln p)++p))
section
variable {P:Program} {TT:List TI} {K0:List Nat} {F:Fr K0} {m:Nat} {ops:Array Oper} {rest:List Oper} {Q:List FP->St->Prop} {tm:List (Nat×AV)} {h:List (Nat×xW)} {dr:Bool} {fs:List FP} {ty:Nat} {pos:String} {after:Array Edge} {t:Nat}
end
theorem N6 {k:Int} {p:List Int} (z:0<=k) (A:k<=255) (hb:BY p) (u:ln p<=200):BY (IW k (ln p)++p):=by grind [BY,IW]
def pz (k:Int) (p:List Int) (z:0<=k) (A:k<=255) (hb:BY p) (u:ln p<=200):KT [iA k,zE yA p] [] (.tup [zE yA (Tb k p),iA 0]) []:=ak
def oz (y:Int):0<=IntKind.u8.wrap y/\IntKind.u8.wrap y<256:=by
 unfold IntKind.wrap;simp[IntKind.signed,IntKind.bits];omega
def Ux (s:Int):List Int:=[IntKind.u8.wrap (s.fdiv (2 ^ (min (24:Int).toNat IntKind.u32.bits))),IntKind.u8.wrap (s.fdiv (2 ^ (min (16:Int).toNat IntKind.u32.bits))),IntKind.u8.wrap (s.fdiv (2 ^ (min (8:Int).toNat IntKind.u32.bits))),IntKind.u8.wrap s]
def be (k:Int) (p:List Int) (G:0<=k) (I:k<=255) (hb:BY p) (E:ln p<=200):∃q,q=90::165::(IW k (ln p)++p)++Ux (QH (IW k (ln p)++p))/\BY q/\q.length=ln p+10/\zN 215 [iA k,zE yA p] [] (.tup [.ref 1031 0 (q.map yA).length,iA 0]) [(1031,.arr 1 (q.map yA) true)]:=by
 have C:=zA yA p;have hh:∀y,(p.map yA)[0]? =some y->ln y.cells=1:=yM _ _ (λ_=>rfl)
 have A:IntKind.u8.wrap (vT (((p.map yA).length:Nat):Int) 8)=0:=by
  have:vT (((p.map yA).length:Nat):Int) 8=0:=by
   unfold vT;rw[zAr,zCy _ yY]
   show(ln p:Int)/256=0
   omega
  rw[this];rfl
 have u:=N6 G I hb E;have z:=Ub (IW k (ln p)++p) (by unfold IW;simp;omega) u
 have z:zN 261 [.sl false ((([AV.s (.int .u8 90),.s (.int .u8 165),.s (.int .u8 1),.s (.int .u8 k),.s (.int .u8 (IntKind.u8.wrap (vT (((p.map yA).length:Nat):Int) 8))),.s (.int .u8 (((p.map yA).length:Nat):Int))]++p.map yA).drop 2).take (([AV.s (.int .u8 90),.s (.int .u8 165),.s (.int .u8 1),.s (.int .u8 k),.s (.int .u8 (IntKind.u8.wrap (vT (((p.map yA).length:Nat):Int) 8))),.s (.int .u8 (((p.map yA).length:Nat):Int))]++p.map yA).length-2))] [] (uA (QH (IW k (ln p)++p))) []:=by
  rw[A,zAr];rw[zA1 zV];exact z
 generalize QH (IW k (ln p)++p)=s at *;refine⟨90::165::(IW k (ln p)++p)++Ux s,rfl,?_,?_,?_⟩
 .intro x hx
  rcases zBc.1 hx with hx|hx
  .simp only[zCf]at hx
   rcases hx with rfl|rfl|hx
   .omega
   .omega
   .exact u x hx
  .simp only[Ux,zCf,List.not_mem_nil,or_false]at hx
   rcases hx with rfl|rfl|rfl|rfl<;>exact oz _
 .simp[IW,Ux]
 have B:(90::165::(IW k (ln p)++p)++Ux s).map yA=([AV.s (.int .u8 90),.s (.int .u8 165),.s (.int .u8 1),.s (.int .u8 k),.s (.int .u8 (IntKind.u8.wrap (vT (((p.map yA).length:Nat):Int) 8))),.s (.int .u8 (((p.map yA).length:Nat):Int))]++p.map yA)++[.s (.int .u8 (IntKind.u8.wrap (s.fdiv (2 ^ (min (24:Int).toNat IntKind.u32.bits))))),.s (.int .u8 (IntKind.u8.wrap (s.fdiv (2 ^ (min (16:Int).toNat IntKind.u32.bits))))),.s (.int .u8 (IntKind.u8.wrap (s.fdiv (2 ^ (min (8:Int).toNat IntKind.u32.bits))))),.s (.int .u8 (IntKind.u8.wrap s))]:=by
  rw[A,zAr];simp only[IW,Ux,zAy,zCb,zCj,zD6,zD1,zBh];rfl
 rw[B];refine eM call215 λF hF=>?_
 (have ga:=z;(repeat' (first|refine jX ?_|apply yW|apply xI|intro hc|(apply zG;first|(apply yH;first|refine uU (nw:=[1031]) (yV tok 1031 (xs:=[_,_,_,_,_,_]) Z Z Z Z Z Z Z Z Z) Z Z Z ?_|refine vC tok Z Z ?_)|(apply gX;refine dM tok Z Z Z Z Z Z Z zB (by simp<;>omega) Z ?_))|refine SB ?_|fail))<;>clear ga)
 exact zP [1031] Z Z Z Z
def vk (m:Ms) (h:M3 m):∃q,BY q/\q.length<=210/\zN 162 [zW m] [] (.tup [.ref 1031 0 (q.map yA).length,iA 0]) [(1031,.arr 1 (q.map yA) true)]:=by
 obtain⟨p,h1,h2,u⟩:=jq m h;have hk:=h.k;obtain⟨q,_,q1,A,z⟩:=be m.kind p zB zB h1 h2;refine⟨q,q1,zB,?_⟩;unfold zW at *;refine eM call162 λF hF=>?_
 refine yG (xV u z) ?_;exact zP [1031] Z Z Z Z
def DL (m:Ms) (h:M3 m):∃q,BY q/\q.length<=210/\zN 95 [zW m] [] (.ref 1031 0 (q.map yA).length) [(1031,.arr 1 (q.map yA) true)]/\zN 95 [zW m] [] (zE yA q) []:=by
 obtain⟨q,q1,z,u⟩:=vk m h;refine⟨q,q1,z,?_,?_⟩
 .unfold zW at *;refine eM call95 λF hF=>?_
  refine zS u ?_;exact zP [1031] Z Z Z Z
 .unfold zW at *;refine eM call95 λF hF=>?_
  refine zS u ?_;exact zH [] Z Z (zBb (AV.sl false) zAt) Z
def DM (m:Ms) (h:M3 m):∃q,BY q/\q.length<=210/\zN 95 [zW m] [] (zE yA q) []:=by
 obtain⟨q,q1,z,_,u⟩:=DL m h;exact⟨q,q1,z,u⟩
def qS (l:List Ag):Nat->Int
 |0=>0
 |i+1=>qS l i+(l.getD i dd).ses
def LL (l:List Ag):Prop:=ln l<=4/\∀a∈l,1<=a.ses/\a.ses<=2
theorem LL.at (h:LL l) {i:Nat} (hi:i<ln l):1<=(l.getD i dd).ses/\(l.getD i dd).ses<=2:=by grind [LL]
theorem qD (h:LL l):∀i,i<=ln l->(i:Int)<=qS l i/\qS l i<=2*i
 |0,_=>⟨zC1 _,zC1 _⟩
 |i+1,hi=>by
  have h1:=qD h i zB;have h2:=h.at (i:=i) zB;unfold qS;omega
def Cs (c:Cf) (h:LL c.ags):zN 93 [wE c] [] (iA (qS c.ags (ln c.ags))) []:=by
 have u:=zA uI c.ags;have A:=h.1;unfold wE zE;refine eM call93 λF hF=>?_
 refine WW ?_;refine zO ((c.ags.map uI).length) [] [] [7,8] [3,9,7,8] Z (λi T U=>⟨(3,iA (qS c.ags i))::(9,iA i)::T,U⟩) (Lq ?_ ?_)
 .intro i hi;have B:=zJ uI c.ags i zB;have h2:=h.at (i:=i) zB;have hb:=qD h i zB;rw[show qS c.ags (i+1)=qS c.ags i+(c.ags.getD i dd).ses from Z];generalize qS c.ags i=z,c.ags.getD i dd=a at *;refine WW ?_;rfl
 .rw[u];exact ly
def Fa (l:List Ag) (g:Int):Nat->Int
 |0=>0
 |i+1=>if(i:Int)<g then Fa l g i+(l.getD i dd).ses else Fa l g i
theorem Sb (h:LL l) (g:Int):∀i,i<=ln l->0<=Fa l g i/\Fa l g i<=2*i
 |0,_=>⟨zC1 _,zC1 _⟩
 |i+1,hi=>by
  have h1:=Sb h g i zB;have h2:=h.at (i:=i) zB;unfold Fa
  split<;>omega
def Bs (c:Cf) (h:LL c.ags) (g:Int):zN 94 [wE c,iA g] [] (iA (Fa c.ags g (ln c.ags))) []:=by
 have u:=zA uI c.ags;have B:=h.1;unfold wE zE;refine eM call94 λF hF=>?_
 refine WW ?_;refine zO ((c.ags.map uI).length) [] [] [1,9,10] [5,11,1,9,10] Z (λi T U=>⟨(5,iA (Fa c.ags g i))::(11,iA i)::T,U⟩) (Lq ?_ ?_)
 .intro i hi;have C:=zJ uI c.ags i zB;have h2:=h.at (i:=i) zB;have hb:=Sb h g i zB;by_cases A:(i:Int)<g
  .rw[show Fa c.ags g (i+1)=Fa c.ags g i+(c.ags.getD i dd).ses from f5 A];generalize Fa c.ags g i=z,c.ags.getD i dd=a at *;refine WW ?_;rfl
  .rw[show Fa c.ags g (i+1)=Fa c.ags g i from Os A];generalize Fa c.ags g i=z,c.ags.getD i dd=a at *;refine WW ?_;rfl
 .rw[u];exact ly
def IX:List Ag->Int->Nat->Option (Nat×Int)
 | [],_,_=>none
 |a::l,s,i=>if s<a.ses then some (i,s)else IX l (s-a.ses) (i+1)
theorem zt (l:List Ag) (s:Int) (i:Nat) (h:i<ln l):IX (l.drop i) s i=if s<(l.getD i dd).ses then some (i,s)else IX (l.drop (i+1)) (s-(l.getD i dd).ses) (i+1):=by grind [IX,List.getD,List.getElem_cons_drop]
def Rb (l:List Ag) (s:Int):Int:=match IX l s 0 with
 |some p=>p.1
 |none=>0
theorem ae:∀(l:List Ag) (s:Int) (i:Nat) (p:Nat×Int),IX l s i=some p->p.1<i+ln l
 | [],_,_,_,h=>by cases h
 |a::l,s,i,p,h=>by
  unfold IX at h;split at h
  .cases h;simp only[zA6];omega
  .have:=ae l _ _ p h;simp only[zA6];omega
def nz (h:LL l) (s:Int):0<=Rb l s/\Rb l s<4:=by
 unfold Rb;split
 .rename_i p u;have:=ae l s 0 p u;have:=h.1;omega
 .omega
def uk (c:Cf) (h:LL c.ags) (s:Int) (I: -1000<=s) (L:s<=1000):zN 97 [wE c,iA s] [] (iA (Rb c.ags s)) []:=by
 have u:=zA uI c.ags;have E:=h.1;unfold Rb wE zE;refine eM call97 λF hF=>?_
 refine WW ?_;refine yU ((c.ags.map uI).length) [] [] [8,9] [1,10,8,9] Z (λi T U B=>∃(z:Int),(IX c.ags s 0=IX (c.ags.drop i) z i/\ -1000-2*(i:Int)<=z/\z<=1000)/\B=⟨(1,iA z)::(10,iA i)::T,U⟩) (Lp ?_ ?_ ?_)
 .exact⟨s,⟨rfl,zB,zB⟩,rfl⟩
 .rintro i st hi ⟨z,⟨hz,z0,z1⟩,rfl⟩;have G:=zJ uI c.ags i zB;have h2:=h.at (i:=i) zB;rw[zt c.ags z i zB]at hz;generalize C:c.ags.drop (i+1)=D at *;generalize c.ags.getD i dd=a at *;by_cases A:z<a.ses
  .rw[f5 A]at hz;rw[hz];exact ly
  .rw[Os A]at hz;refine WW ?_;exact⟨_,⟨hz,zB,zB⟩,rfl⟩
 .rintro st ⟨z,⟨hz,z0,z1⟩,rfl⟩;rw[u,zEu]at hz;rw[hz];exact ly
structure Ea (e:Ev):Prop where
 k:1<=e.k/\e.k<=6
 s:0<=e.s/\e.s<=100
 a:0<=e.a/\e.a<=100
 b:0<=e.b/\e.b<=100
 y:BY e.y
 n:e.y.length<=1000
def yj {k s a b:Int} {y:List Int} (hk:1<=k/\k<=6) (A:0<=s/\s<=100) (u:0<=a/\a<=100) (hb:0<=b/\b<=100) (B:BY y) (z:ln y<=1000):Ea ⟨k,s,a,b,y⟩:=⟨hk,A,u,hb,B,z⟩
def jT:BY []:=λx hx=>by cases hx
theorem mz (c:Cf) (s:Int) (s0:0<=s) (s1:s<=100) (M:Bool) (d:Dk):∃(e:Ev) (O:Dk),Ea e/\rem O<=rem d/\zN 96 [.ptr 1000 0 0,wE c,iA s,bA M] [(1000,eE d)] (jZ e) [(1000,eE O)]:=by
 have A:=yT d 6 zB zB;have W:=yQ d 6 zB;have I:=vF d;generalize nx d 6=k,ad d=u at *;unfold jZ zE;by_cases h0:k=0
 .refine⟨⟨2,s,0,0,[]⟩,u,yj zB zB zB zB jT zV,I,?_⟩;refine eM call96 λF hF=>?_
  refine zS A ?_;exact zH [1000] Z Z Z Z
 by_cases h1:k=1
 .refine⟨⟨1,s,0,0,[]⟩,u,yj zB zB zB zB jT zV,I,?_⟩;refine eM call96 λF hF=>?_
  refine zS A ?_;exact zH [1000] Z Z Z Z
 by_cases h2:k=2
 .have B:=yT u 4 zB zB;have C:=yQ u 4 zB;have L:=vF u;have G:=yT (ad u) 50 zB zB;have R:=yQ (ad u) 50 zB;have V:=vF (ad u);have S:=cE (nx (ad u) 50);refine⟨⟨4,0,nx u 4,0,cL (nx (ad u) 50)⟩,ad (ad u),yj zB zB zB zB (OE _) (by rw[gZ];omega),zB,?_⟩;generalize nx (ad u) 50=q at *;generalize nx u 4=p at *;generalize cL q=y at *;refine eM call96 λF hF=>?_
  refine yG (cD A B G S) ?_;exact zH [1000] Z Z Z Z
 cases M with
 |true=>
  refine⟨⟨6,0,0,0,[]⟩,u,yj zB zB zB zB jT zV,I,?_⟩;refine eM call96 λF hF=>?_
  refine zS A ?_;exact zH [1000] Z Z Z Z
 |false=>
 by_cases h3:k=3
 .have B:=yT u 3 zB zB;have C:=yQ u 3 zB;have L:=vF u;have G:=yT (ad u) 9 zB zB;have R:=yQ (ad u) 9 zB;have V:=vF (ad u);refine⟨⟨5,0,nx u 3,nx (ad u) 9,[]⟩,ad (ad u),yj zB zB zB zB jT zV,zB,?_⟩;generalize nx (ad u) 9=q at *;generalize nx u 3=p at *;refine eM call96 λF hF=>?_
  refine yG (qM A B G) ?_;exact zH [1000] Z Z Z Z
 by_cases h4:k=4
 .have B:=yT u 120 zB zB;have C:=yQ u 120 zB;have L:=vF u;refine⟨⟨3,s,0,0,pb (150+nx u 120).toNat 0⟩,ad u,yj zB zB zB zB (λx hx=>by have:=(zEn.1 hx).2;omega) (by rw[zCq];omega),zB,?_⟩;generalize nx u 120=q at *;refine eM call96 λF hF=>?_
  have E:150+q=(((150+q).toNat:Nat):Int):=by omega
  (have ga:=A;have ge:=B;(repeat' (first|refine uT ?_|apply yW|apply xI|intro hc|(apply zG;first|(apply fP;refine Ye tok Z Z Z Z Z Z Z Z Z Z Z Z E zB zB Z Z Z ?_))|fail))<;>clear ga ge)
  have e:py (150+q).toNat (List.drop 0 (pb (150+q).toNat (yA 0)))=(pb (150+q).toNat 0).map yA:=by rw[zBd,zA1 zV,zEf]
  exact zH [1000] Z Z (zBb (λz=>AV.agg [iA 3,iA s,iA 0,iA 0,.sl false z]) e) Z
 .have B:=vq u 9 zB zB;have C:=yQ u (9+1) zB;obtain⟨p1,p2,U⟩:=Fd (ad u) (nx u (9+1)).toNat;have L:=vF u;refine⟨⟨3,s,0,0,(eV (ad u) (nx u (9+1)).toNat).1⟩,(eV (ad u) (nx u (9+1)).toNat).2,yj zB zB zB zB U zB,zB,?_⟩;generalize (eV (ad u) (nx u (9+1)).toNat).1=y at *;generalize (eV (ad u) (nx u (9+1)).toNat).2=Y at *;refine eM call96 λF hF=>?_
  refine yG (xV A B) ?_;exact zH [1000] Z Z Z Z
def KP (l:List Ev) (n:Nat):Prop:=ln l<=n/\∀e∈l,Ea e
theorem KP.nil:KP [] 0:=⟨zAw _,λe h=>by cases h⟩
theorem KP.app {l:List Ev} (h:KP l n) {e:Ev} (u:Ea e):KP (l++[e]) (n+1):=
 ⟨by have:=h.1;rw[zAv,zCr];omega,λx hx=>(zBc.1 hx).elim (h.2 x) λhx=>by rw[zBl.1 hx];exact u⟩
theorem KP.le {l:List Ev} {m:Nat} (h:KP l n) (u:n<=m):KP l m:=⟨zBw h.1 u,h.2⟩
def lz (g v:Int) (u:0<=g/\g<256) (hv:0<=v/\v<=100):M3 ⟨4,g::0::cL (1000+g),[v,v.tmod 2],[]⟩:=by
 have h1:=zF8 2 hv.1;have h2:v.tmod 2<2:=zFq v zB;exact⟨Mp u zB (OE _),by simp[gZ],by dsimp only;omega,.cons zB (.cons zB .nil),⟨0,zB,λh=>absurd Z h,rfl⟩,rfl⟩
structure Qb (c:Cf):Prop where
 j:1<=c.js.length/\c.js.length<=4
 jv:∀j∈c.js,JV j
 a:1<=c.ags.length/\c.ags.length<=4
 av:∀a∈c.ags,Ty a
 p:1<=c.per/\c.per<=600
 cp:0<=c.cap/\c.cap<=100
 h:1<=c.hold/\c.hold<=60
 l:0<=c.lock/\c.lock<=600
theorem Qb.w {c:Cf} (h:Qb c):IG c:=⟨h.j.2,λj hj=>(h.jv j hj).n⟩
theorem Qb.ag {c:Cf} (h:Qb c):LL c.ags:=⟨h.a.2,λa u=>(h.av a u).e⟩
def M6 (d:Dk) (r:Int) (z:0<=r/\r<=63):Qb (FJ d r):=by
 have C:=J7 d r;have h1:=yQ d (4-1+1) zB;have h2:=yQ (ad d) 4 zB;have A:=yQ (ad (ad d)) (3-1+1) zB;have B:=yQ (ad (ad (ad d))) 5 zB;refine⟨zB,λj hj=>?_,zB,λa u=>?_,?_,?_,?_,?_⟩
 .rw[Bp]at hj;obtain⟨e,rfl⟩:=jg _ _ j hj;exact Az e
 .obtain⟨i,hi,rfl⟩:=zC8 u;have:=(O4 d r z (i:Int) zB zB).1.v;rw[show(i:Int).toNat=i from Z]at this;rw[show(FJ d r).ags[i]=(FJ d r).ags.getD i dd by simp[p5,hi]];exact this
 all_goals (unfold FJ;dsimp only;omega)
def LP (c:Cf) (i:Nat):List wC:=(pi i).map λk:Nat=>QW (k:Int) (c.ags.getD k dd) (c.ags.getD k dd).ses.toNat
def IY (j:Jn):Sv:=sh (ln j.ph)
def UD (c:Cf):Cy:=⟨c,false,0,LP c (ln c.ags),c.js.map fN,c.js.map IY,c.js.map λ_=> -1,c.js.map λj=>LK j (fN j) (IY j)⟩
def rz (j:Int) (x:Lg):zN 160 [yO x,.ptr 5 0 0] [(5,.box [iA j])] (bA (x.jn==j)) [(5,.box [iA j])]:=by
 refine eM call160 λF hF=>?_
 refine WW ?_;exact zP [5] Z Z Z Z
def iz (j:Int) (l:List Lg) (hb:ln l<=1000):zN 159 [zE yO l,.fn 160 [.ptr 5 0 0]] [(5,.box [iA j])] (iA (TF (λr:Lg=>r.jn==j) l)) [(5,.box [iA j])]:=by
 have hl:=zA yO l;refine eM call159 λF hF=>?_
 refine WW ?_;refine uX (l) [5] [5] [0,1,7] [8,0,1,7] Z (λi f4 T U C=>(∀y∈f4,(y.jn==j)=false)/\C=⟨(8,iA i)::T,U⟩) (Lp ?_ ?_ ?_)
 .exact⟨by simp,rfl⟩
 .rintro i f4 x post st hx hi ⟨hp,rfl⟩;have z:=yJ yO hx hi;have B:=zX hx hi;have c:=rz j x;have u:=PW (p:=λr:Lg=>r.jn==j) hx hp
  cases A:(x.jn==j)<;>rw[A]at c
  .clear hx u;refine zS c ?_;exact⟨λy z=>by simp only[zBc,zBl]at z;rcases z with z|rfl;exact hp y z;exact A,rfl⟩
  .rw[u A,hi];clear hx u;refine zS c ?_;exact zP [5] Z Z Z Z
 .rintro st ⟨hp,rfl⟩;rw[bS hp];refine WW ?_;exact zP [5] rfl rfl rfl rfl
def OP (u j:Int) (x:Rq):List Cl:=if TF (λr:Lg=>r.jn==j) x.legs<0 then []else if(x.legs.getD (TF (λr:Lg=>r.jn==j) x.legs).toNat dd).sc= -1 then []else [⟨u,x.id,(x.legs.getD (TF (λr:Lg=>r.jn==j) x.legs).toNat dd).ph,x.cls,(x.legs.getD (TF (λr:Lg=>r.jn==j) x.legs).toNat dd).sc⟩]
def fH (u j:Int) (l:List Rq):List Cl:=(l.map (OP u j)).flatten
theorem qk (u j:Int) (x:Rq):(OP u j x).length<=1:=by grind [OP]
def KQ (u j:Int) (l:List Rq) (x:Rq):fH u j (l++[x])=fH u j l++OP u j x:=by simp[fH]
theorem dU (u j:Int):∀l:List Rq,(fH u j l).length<=ln l
 | []=>zAw _
 |x::l=>by
  have h1:=qk u j x;have h2:=dU u j l;have e:fH u j (x::l)=OP u j x++fH u j l:=rfl;rw[e,zAv,zA6];omega
def Eg (l:List Rq) (u j:Int) (R:ln l<=1000) (hb:∀r∈l,ln r.legs<=1000):zN 89 [zE zY l,iA u,iA j] [] (zE kE (fH u j l)) []:=by
 have hl:=zA zY l;refine eM call89 λF hF=>?_
 refine WW ?_;refine zQ 7 1001 5 Z Z Z ?_;refine zU (l) [1001,5] [5] [1,5,12,13] [7,14,1,5,12,13] Z (λi f4 T U=>⟨(7,.ref 1001 0 ((fH u j f4).map kE).length)::(14,iA i)::T,(1001,.arr 5 ((fH u j f4).map kE) true)::U⟩) (Lq ?_ ?_)
 .intro i f4 x post hx hi;have V:=yJ zY hx hi;have G:=zX hx hi;have A:=iz j x.legs (hb x (xA hx));have S:=dU u j f4;have L:((fH u j f4).map kE).length=(fH u j f4).length:=zAr ..;have I:ln f4<=ln l:=by rw[hx];simp
  have M:(x.legs.map yO).length=ln x.legs:=zAr ..;rw[KQ,zAy]
  have E: -1<=TF (λr:Lg=>r.jn==j) x.legs/\(0<=TF (λr:Lg=>r.jn==j) x.legs->TF (λr:Lg=>r.jn==j) x.legs<ln x.legs):=by
   cases C:x.legs.any (λr:Lg=>r.jn==j)with
   |true=>have:=Mc C;omega
   |false=>rw[TF,C,Os zA7];omega
  unfold OP;clear hx;generalize (fH u j f4).map kE=X at *;by_cases B:TF (λr:Lg=>r.jn==j) x.legs<0
  .rw[f5 B,zCj,zBn];generalize TF (λr:Lg=>r.jn==j) x.legs=z at *;refine zS A ?_;rfl
  .rw[Os B];have O:=yE yO x.legs (TF (λr:Lg=>r.jn==j) x.legs) zB zB;generalize TF (λr:Lg=>r.jn==j) x.legs=z at *;generalize x.legs.getD z.toNat dd=g at *;by_cases h1:g.sc= -1
   .rw[f5 h1,zCj,zBn];refine zS A ?_;rfl
   .rw[Os h1];refine zS A ?_;rfl
 ·(refine WW ?_)
  exact zH [] Z Z (zBb (AV.sl false) zAt) Z
def jJ (j:Int) (l:List wC):List Cl:=(l.map λd=>fH d.rg.num j d.rq).flatten
def KR (j:Int) (l:List wC) (d:wC):jJ j (l++[d])=jJ j l++fH d.rg.num j d.rq:=by simp[jJ]
theorem OQ (j:Int):∀l:List wC,(∀d∈l,ln d.rq<=1000)->(jJ j l).length<=1000*ln l
 | [],_=>zAw _
 |d::l,h=>by
  have h1:=dU d.rg.num j d.rq;have h2:=OQ j l (λx hx=>h x (by simp[hx]));have u:=h d zV;have e:jJ j (d::l)=fH d.rg.num j d.rq++jJ j l:=rfl;rw[e,zAv,zA6];omega
def Dg (c:Cf) (V:Bool) (f3:Int) (u:List wC) (j:Int) (hd:ln u<=1000) (hb:∀d∈u,dN d) (A B C D:List AV) (a b e f:Nat):
  zN 38 [aY c V f3 (zE zM u) (.ref 1012 0 a) (.ref 1013 0 b) (.ref 1014 0 e) (.ref 1015 0 f),iA j] [(1012,.arr 5 A false),(1013,.arr 3 B false),(1014,.arr 1 C false),(1015,.arr 4 D false)] (zE kE (jJ j u)) [(1012,.arr 5 A false),(1013,.arr 3 B false),(1014,.arr 1 C false),(1015,.arr 4 D false)]:=by
 have hl:=zA zM u;unfold aY;refine eM call38 λF hF=>?_
 refine WW ?_;refine zQ 5 1001 5 Z Z Z ?_;refine zU (u) [1001,1012,1013,1014,1015] [1012,1013,1014,1015] [1,9,10] [5,11,1,9,10] Z (λi f4 T U=>⟨(5,.ref 1001 0 ((jJ j f4).map kE).length)::(11,iA i)::T,(1001,.arr 5 ((jJ j f4).map kE) true)::U⟩) (Lq ?_ ?_)
 .intro i f4 x post hx hi;have S:=yJ zM hx hi;have G:=zX hx hi;have z:=hb x (xA hx);have E:=Eg x.rq x.rg.num j z.q z.g;have W:=OQ j f4 (λd hd=>(hb d (by rw[hx];simp[hd])).q);have O:((jJ j f4).map kE).length=(jJ j f4).length:=zAr ..;have L:=dU x.rg.num j x.rq;have M:((fH x.rg.num j x.rq).map kE).length=(fH x.rg.num j x.rq).length:=zAr ..;have I:ln f4<=ln u:=by rw[hx];simp
  have R:=z.q;rw[KR,zAy];clear hx;generalize (jJ j f4).map kE=X at *;unfold zE at E;generalize fH x.rg.num j x.rq=Y at *;unfold zM xD at S;refine zS E ?_;rfl
 ·(refine WW ?_)
  exact zH [1012,1013,1014,1015] Z Z (zBb (AV.sl false) zAt) Z
def DN (a:Ag) (h:1<=a.ses/\a.ses<=2):zN 119 [uI a] [] (iA a.ses) []:=by
 refine eM call119 λF hF=>?_
 refine WW ?_;refine zH [] Z Z (zBb iA ?_) Z;omega
def jk (a k s:Nat):AV:= .agg [iA a,iA k,iA s]
def Cg (c:Cf) (a:Nat):List (Nat×xW):=[(1103,.box [iA a]),(1104,.box [zE wJ c.js,zE uI c.ags,iA c.per,iA c.cap,iA c.hold,iA c.lock])]
def IZ (c:Cf) (a:Nat):List (List AV):=(pi (c.ags.getD a dd).ses.toNat).map λk=>[jk a k ((qS c.ags a).toNat+k)]
def pe (c:Cf) (a:Nat):zN 49 [wE c,iA a] [] (.fn 118 [.ptr 1104 0 0,.ptr 1103 0 0]) (Cg c a):=by
 unfold wE Cg;refine eM call49 λF hF=>?_
 repeat' (first|(apply zG;first|refine uU (dI (v:=AV.agg _) 1104 Z Z) Z Z Z ?_|refine uU (dI (v:=AV.s _) 1103 Z Z) Z Z Z ?_|refine uL tok Z Z ?_|apply kP)|(first|apply xY|apply xR|refine vZ Z ?_|refine yR Z ?_|refine yD Z ?_|refine xZ Z (λhc=>?_) λhc=>?_|apply xJ|apply xL|apply xQ|apply xC))
 exact zP [1103,1104] Z Z Z Z
def gk (c:Cf) (h:LL c.ags) (a:Nat) (M:a<ln c.ags):TL prog 118 [.ptr 1104 0 0,.ptr 1103 0 0] (Cg c a) (IZ c a):=by
 have hl:=zA uI c.ags;have Y:=h.1;have L:=h.at M;refine VN func118 Z (λargs w=>call118 args w) Z Z Z (λF y R I G=>?_);unfold Cg;have S:((c.ags.take (a:Int).toNat).map uI).length=a:=by rw[zAr,zBg];omega
 have B:∀i,i<=a->qS (c.ags.take a) i=qS c.ags i:=λi=>by
  induction i with
  |zero=>intro _;rfl
  |succ i W=>
   intro hi;unfold qS;rw[W zB,zA0,zCg,f5 zB,<-zA0]
 refine WW ?_;refine zO (a) [1103,1104] [1103,1104] [0,1,2,11,12] [4,13,1000000,0,1,2,11,12] Z (λi T U=>⟨(4,iA (qS c.ags i))::(13,iA i)::(1000000,.gh 0)::T,U⟩) (Lq ?_ ?_)
 .intro i hi
  have V:((c.ags.take (a:Int).toNat).map uI)[i]? =some (uI (c.ags.getD i dd)):=by
   show((c.ags.take a).map uI)[i]? =_
   rw[zAz,zCg,f5 hi,zA0,zBk zB];rfl
  have h2:=h.at (i:=i) zB;have hb:=qD h i zB;have E:=DN (c.ags.getD i dd) h2;rw[show qS c.ags (i+1)=qS c.ags i+(c.ags.getD i dd).ses from Z];clear B L G;generalize qS c.ags i=z,c.ags.getD i dd=g at *;refine zS E ?_;rfl
 .have V:=zJ uI c.ags a M;have E:=DN (c.ags.getD a dd) L;have hb:=qD h a zB;obtain⟨u,A⟩:∃u:Nat,qS c.ags a=(u:Int):=⟨(qS c.ags a).toNat,zB⟩;obtain⟨N,hN⟩:∃N:Nat,(c.ags.getD a dd).ses=(N:Int):=⟨(c.ags.getD a dd).ses.toNat,zB⟩;have hL:IZ c a=(pi N).map λk=>[jk a k (u+k)]:=by unfold IZ;rw[A,hN];rfl
  rw[A]at hb⊢;rw[hN]at E L;rw[hL]at G⊢;clear hL hN B;generalize c.ags.getD a dd=g at *;refine zS E ?_;refine zO (N) [1103,1104] [1103,1104] [0,2,4,27] [28,1000000,0,2,4,27] Z (λi T U=>⟨(28,iA i)::(1000000,.gh i)::T,U⟩) (Lq ?_ ?_)
  .intro k hk
   have C:((pi N).map λk=>[jk a k (u+k)])[k]? =some [jk a k (u+k)]:=by
    rw[zAz,zCk hk];rfl
   have O:k<((pi N).map λk=>[jk a k (u+k)]).length:=by simp;exact hk
   rw[show jk a k (u+k)= .agg [iA (a:Int),iA (k:Int),iA ((u:Int)+k)]from by unfold jk;rw[show((u+k:Nat):Int)=(u:Int)+k by omega]]at C;generalize ((pi N).map λk=>[jk a k (u+k)])=xs at*
   (repeat' (first|refine uT ?_|apply yW|apply xI|intro hc|(apply zG;apply xP;first|(apply Of;refine GY I G Z Z C Z Z Z ?_ ?_))|(apply zG;first|refine SM ?_)|fail))
   .rfl
   .exact TM Z (.inr zB)
  ·(refine WW ?_)
   exact ZT Z (.inl zV)
def SH (b:List Int):Nat:=(b.getD 4 0).toNat*256+(b.getD 5 0).toNat
def xj (b:List Int):Option (It×Nat):=
 if (ln b)=0 then none
 else if b.getD 0 0≠90\/(1<ln b/\b.getD 1 0≠165)then some (⟨2,0,[]⟩,1)
 else if (ln b)<6 then none
 else if 200<SH b then some (⟨7,0,[]⟩,1)
 else if (ln b)<SH b+10 then none
 else if QH ((b.drop 2).take (SH b+4))≠Fg ((b.drop (SH b+6)).take 4)then some (⟨4,0,[]⟩,1)
 else if b.getD 2 0≠1 then some (⟨3,0,[]⟩,SH b+10)
 else if b.getD 3 0<1\/22<b.getD 3 0 then some (⟨5,0,[]⟩,SH b+10)
 else some (⟨0,b.getD 3 0,(b.drop 6).take (SH b)⟩,SH b+10)
def Zz (o:Option (It×Nat)):AV:=match o with
 |none=> .tup [vH ⟨0,0,[]⟩,iA 0,bA false]
 |some x=> .tup [vH x.1,iA x.2,bA true]
theorem or8 {x y:Int} (hx:0<=x/\x<256) (u:0<=y/\y<256):pj (IntKind.i64.wrap (x*2 ^ (min (8:Int).toNat IntKind.i64.bits))) y=x*256+y:=by
 have h1:IntKind.i64.wrap (x*2 ^ (min (8:Int).toNat IntKind.i64.bits))=x*256:=by
  rw[show x*2 ^ (min (8:Int).toNat IntKind.i64.bits)=x*256 from Z];exact kI (k:= .i64) ⟨by show -9223372036854775808<=_;omega,by show _<=9223372036854775807;omega⟩
 rw[h1];obtain⟨a,rfl⟩:=zCl hx.1;obtain⟨c,rfl⟩:=zCl u.1;have h2:=FD (a*256) c zB zB;have z:=zEb (show c<2 ^ 8 by omega) a
 grind [pj,Nat.shiftLeft_eq]
theorem KS (b:List Int) (hb:BY b) (i:Nat) (hi:i<ln b):(b.map yA)[i]? =some (yA (b.getD i 0))/\0<=b.getD i 0/\b.getD i 0<256:=by grind [BY,yA,p5,List.getElem?_eq_getElem,List.getElem_mem]
section
variable (b:List Int) (hb:BY b) (hl:ln b<=1000000)
include hb hl
end
