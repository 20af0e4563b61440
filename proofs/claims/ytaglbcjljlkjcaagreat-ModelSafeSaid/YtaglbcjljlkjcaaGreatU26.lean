/- Part 26. -/
import Derived.Test.YtaglbcjljlkjcaaGreatU25
namespace Go.Proofs.YtaglbcjljlkjcaaGreat.Av
open Tryz
set_option linter.all false
set_option maxRecDepth 4000
set_option maxHeartbeats 4000000
open List renaming length->ln,replicate->pi,range->py,take->p5,getD->qd
open Inhabited renaming default->dd
variable {l:List Ag}{n:Nat}
structure Cy where
 c:Cf
 rf:Bool
 f4:Int
 ds:List wC
 sg:List Sg
 sv:List Sv
 st:List Int
 vw:List Vw
instance:Inhabited wC:=⟨⟨⟨0,⟨[],0,0,[],0,0,0,0⟩,[],[],⟨0,0,0⟩⟩,[],[],[]⟩⟩
instance:Inhabited Sg:=⟨⟨⟨[],0,[],0⟩,false⟩⟩
instance:Inhabited Sv:=⟨⟨-1,0,[]⟩⟩
def aF (c:Cf) (u:Bool) (f4:Int) (a b s t v:AV):AV:= .agg [zE wD c.js,zE uF c.ags,iA c.per,iA c.cap,iA c.hold,iA c.lock,bA u,iA f4,a,b,s,t,v]
def qA (y:Cy):AV:=aF y.c y.rf y.f4 (zE zM y.ds) (zE wU y.sg) (zE wP y.sv) (zE iA y.st) (zE vG y.vw)
def cN {y:Cy} (h:y.rf=false):qA y= .agg [zE wD y.c.js,zE uF y.c.ags,iA y.c.per,iA y.c.cap,iA y.c.hold,iA y.c.lock,bA false,iA y.f4,zE zM y.ds,zE wU y.sg,zE wP y.sv,zE iA y.st,zE vG y.vw]:=by rw[<-h];rfl
def LV (y:Cy):AV:=aF y.c y.rf y.f4 (.ref 1011 0 (y.ds.map zM).length) (.ref 1012 0 (y.sg.map wU).length) (.ref 1013 0 (y.sv.map wP).length) (.ref 1014 0 (y.st.map iA).length) (zE vG y.vw)
def LW (y:Cy):List (Nat×xW):=[(1011,.arr 17 (y.ds.map zM) false),(1012,.arr 5 (y.sg.map wU) false),(1013,.arr 3 (y.sv.map wP) false),(1014,.arr 1 (y.st.map iA) false)]
structure Q6 (y:Cy):Prop where
 d:y.ds.length<=1000
 db:∀d∈y.ds,dN d
 g:y.sg.length<=1000
 gb:∀s∈y.sg,s.c.li.length<=1000/\s.c.nx.length<=1000
 s:y.sv.length<=1000
 sb:∀s∈y.sv,s.en.length<=1000
 t:y.st.length<=1000
 v:y.vw.length<=1000
 vb:∀v∈y.vw,v.co.length<=1000/\v.cn.length<=1000
def DG (l:List wC) (hl:ln l<=1073741824):zN 105 [zE zM l] [] (.ref 1011 0 (l.map zM).length) [(1011,.arr 17 (l.map zM) false)]:=by
 have u:=zA zM l;refine eM call105 λF hF=>?_
 refine xI 0 Z (λcap z=>?_) ?_
 .have:l=[]:=by simpa using z
  subst this
  (repeat' (first|refine Xf ?_|apply yW|apply xH|intro hc|fail))
  refine qH 2 1011 17 Z Z Z (xL ?_);exact zP [1011] Z Z Z Z
 .repeat' (first|(apply zG;first|refine uM tok Z Z ?_|(apply wY;refine wM (xY tok (.inl ⟨rfl,rfl⟩) Z Z Z Z) Z ?_)|(apply yH;refine uT (nw:=[1011]) (yV tok 1011 (xs:=[]) Z Z Z Z Z Z Z Z Z) Z Z Z ?_)|(apply yC;refine vB tok Z Z Z Z Z Z Z (yM _ _ (λ_=>rfl)) Z Z Z zB Z ?_)|apply kQ)|(first|apply xX|apply xT|refine vZ Z ?_|refine yS Z ?_|refine yD Z ?_|refine xZ Z (λhc=>?_) λhc=>?_|apply xJ|apply xL|apply xS|apply xB))
  exact zP [1011] Z Z Z Z
def DH (l:List Sg) (hl:ln l<=1073741824):zN 107 [zE wU l] [] (.ref 1012 0 (l.map wU).length) [(1012,.arr 5 (l.map wU) false)]:=by
 have u:=zA wU l;refine eM call107 λF hF=>?_
 refine xI 0 Z (λcap z=>?_) ?_
 .have:l=[]:=by simpa using z
  subst this
  (repeat' (first|refine Xf ?_|apply yW|apply xH|intro hc|fail))
  refine qH 2 1012 5 Z Z Z (xL ?_);exact zP [1012] Z Z Z Z
 .repeat' (first|(apply zG;first|refine uM tok Z Z ?_|(apply wY;refine wM (xY tok (.inl ⟨rfl,rfl⟩) Z Z Z Z) Z ?_)|(apply yH;refine uT (nw:=[1012]) (yV tok 1012 (xs:=[]) Z Z Z Z Z Z Z Z Z) Z Z Z ?_)|(apply yC;refine vB tok Z Z Z Z Z Z Z (yM _ _ (λ_=>rfl)) Z Z Z zB Z ?_)|apply kQ)|(first|apply xX|apply xT|refine vZ Z ?_|refine yS Z ?_|refine yD Z ?_|refine xZ Z (λhc=>?_) λhc=>?_|apply xJ|apply xL|apply xS|apply xB))
  exact zP [1012] Z Z Z Z
def DI (l:List Sv) (hl:ln l<=1073741824):zN 109 [zE wP l] [] (.ref 1013 0 (l.map wP).length) [(1013,.arr 3 (l.map wP) false)]:=by
 have u:=zA wP l;refine eM call109 λF hF=>?_
 refine xI 0 Z (λcap z=>?_) ?_
 .have:l=[]:=by simpa using z
  subst this
  (repeat' (first|refine Xf ?_|apply yW|apply xH|intro hc|fail))
  refine qH 2 1013 3 Z Z Z (xL ?_);exact zP [1013] Z Z Z Z
 .repeat' (first|(apply zG;first|refine uM tok Z Z ?_|(apply wY;refine wM (xY tok (.inl ⟨rfl,rfl⟩) Z Z Z Z) Z ?_)|(apply yH;refine uT (nw:=[1013]) (yV tok 1013 (xs:=[]) Z Z Z Z Z Z Z Z Z) Z Z Z ?_)|(apply yC;refine vB tok Z Z Z Z Z Z Z (yM _ _ (λ_=>rfl)) Z Z Z zB Z ?_)|apply kQ)|(first|apply xX|apply xT|refine vZ Z ?_|refine yS Z ?_|refine yD Z ?_|refine xZ Z (λhc=>?_) λhc=>?_|apply xJ|apply xL|apply xS|apply xB))
  exact zP [1013] Z Z Z Z
def DJ (l:List Int) (hl:ln l<=1073741824):zN 111 [zE iA l] [] (.ref 1014 0 (l.map iA).length) [(1014,.arr 1 (l.map iA) false)]:=by
 have u:=zA iA l;refine eM call111 λF hF=>?_
 refine xI 0 Z (λcap z=>?_) ?_
 .have:l=[]:=by simpa using z
  subst this
  (repeat' (first|refine Xf ?_|apply yW|apply xH|intro hc|fail))
  refine qH 2 1014 1 Z Z Z (xL ?_);exact zP [1014] Z Z Z Z
 .repeat' (first|(apply zG;first|refine uM tok Z Z ?_|(apply wY;refine wM (xY tok (.inl ⟨rfl,rfl⟩) Z Z Z Z) Z ?_)|(apply yH;refine uT (nw:=[1014]) (yV tok 1014 (xs:=[]) Z Z Z Z Z Z Z Z Z) Z Z Z ?_)|(apply yC;refine vB tok Z Z Z Z Z Z Z (yM _ _ (λ_=>rfl)) Z Z Z zB Z ?_)|apply kQ)|(first|apply xX|apply xT|refine vZ Z ?_|refine yS Z ?_|refine yD Z ?_|refine xZ Z (λhc=>?_) λhc=>?_|apply xJ|apply xL|apply xS|apply xB))
  exact zP [1014] Z Z Z Z
def OV (y:Cy) (h:Q6 y):zN 44 [qA y] [] (LV y) (LW y):=by
 have G:=DG y.ds (by have:=h.d;omega);have I:=DH y.sg (by have:=h.g;omega);have L:=DI y.sv (by have:=h.s;omega);have M:=DJ y.st (by have:=h.t;omega);have O:=Xh y.vw h.v h.vb;have A:=zA zM y.ds;have B:=zA wU y.sg;have C:=zA wP y.sv;have E:=zA iA y.st;have hd:=h.d;have S:=h.g;have V:=h.s;unfold qA LV aF LW;refine eM call44 λF hF=>?_
 refine zS G ?_;refine zO ((y.ds.map zM).length) [1011,1,2] [1,2] [1,2,12] [13,1,2,12] Z (λi T U=>⟨(13,iA i)::T,(1011,.arr 17 (dR i (y.ds.map zM)) false)::U⟩) (Lq ?_ ?_)
 .intro i hi;have hi':i<ln y.ds:=by omega
  have z:(dR i (y.ds.map zM))[i]? =some (zM (y.ds.getD i dd)):=zJ zM y.ds i hi';have e:=cB zM y.ds i hi';have u:=MZ (y.ds.getD i dd) (h.db _ QM);generalize (y.ds.getD i dd)=t,dR i (y.ds.map zM)=xs,dR (i+1) (y.ds.map zM)=ys at *;subst e;refine zS u ?_;rfl
 ·(refine zS I ?_)
  refine zO ((y.sg.map wU).length) [1012,1,2,1011] [1,2,1011] [1,2,33] [34,1,2,33] Z (λi T U=>⟨(34,iA i)::T,(1012,.arr 5 (dR i (y.sg.map wU)) false)::U⟩) (Lq ?_ ?_)
  .intro i hi;have hi':i<ln y.sg:=by omega
   have z:(dR i (y.sg.map wU))[i]? =some (wU (y.sg.getD i dd)):=zJ wU y.sg i hi';have e:=cB wU y.sg i hi';have u:=Lx (y.sg.getD i dd) (by have:=h.gb (y.sg.getD i dd) QM;omega) (by have:=h.gb (y.sg.getD i dd) QM;omega);generalize (y.sg.getD i dd)=t,dR i (y.sg.map wU)=xs,dR (i+1) (y.sg.map wU)=ys at *;subst e;refine zS u ?_;rfl
  ·(refine zS L ?_)
   refine zO ((y.sv.map wP).length) [1013,1,2,1011,1012] [1,2,1011,1012] [1,2,54] [55,1,2,54] Z (λi T U=>⟨(55,iA i)::T,(1013,.arr 3 (dR i (y.sv.map wP)) false)::U⟩) (Lq ?_ ?_)
   .intro i hi;have hi':i<ln y.sv:=by omega
    have z:(dR i (y.sv.map wP))[i]? =some (wP (y.sv.getD i dd)):=zJ wP y.sv i hi';have e:=cB wP y.sv i hi';have u:=GE (y.sv.getD i dd) ⟨by have:=h.sb (y.sv.getD i dd) QM;omega⟩;generalize (y.sv.getD i dd)=t,dR i (y.sv.map wP)=xs,dR (i+1) (y.sv.map wP)=ys at *;subst e;refine zS u ?_;rfl
   ·(refine yF (xQ M O) ?_)
    exact zP [1011,1012,1013,1014] Z Z Z Z
def ae {l:List AV} {y:Cy} (k:zN n l [] (LV y) (LW y)):zN n l [] (qA y) []:=by
 refine k.frz [] ?_ Z Z
 show AV.agg [zE wD y.c.js,zE uF y.c.ags,iA y.c.per,iA y.c.cap,iA y.c.hold,iA y.c.lock,bA y.rf,iA y.f4,.sl false (p5 (y.ds.map zM).length (y.ds.map zM)),.sl false (p5 (y.sg.map wU).length (y.sg.map wU)),.sl false (p5 (y.sv.map wP).length (y.sv.map wP)),.sl false (p5 (y.st.map iA).length (y.st.map iA)),zE vG y.vw]=_
 rw[zAv,zAv,zAv,zAv];rfl
def OW (y:Cy) (h:Q6 y):zN 44 [qA y] [] (qA y) []:=ae (OV y h)
def Fs (j:Jn) (h:ln j.ph<=8):zN 79 [wD j] [] (.agg [bA true,bA false,.ref 1021 0 (j.ph.map xN).length,.ref 1022 0 (j.ph.map xN).length]) [(1021,.arr 1 (List.replicate (j.ph.map xN).length (iA 0)) false),(1022,.arr 1 (List.replicate (j.ph.map xN).length (iA 0)) false)]:=by
 have hl:=zA xN j.ph;unfold wD zE;generalize j.ph.map xN=P at *;refine eM call79 λF hF=>?_
 (repeat' (first|refine uS ?_|apply yW|apply xH|intro hc|(apply zG;first|(apply fQ;first|refine bE 1021 tok Z Z Z Z Z Z Z Z Z Z Z Z Z zB zB Z Z Z ?_|refine bE 1022 tok Z Z Z Z Z Z Z Z Z Z Z Z Z zB zB Z Z Z ?_))|fail))
 exact zP [1021,1022] Z Z Z Z
def Qr (p:Ph) (l:Li):Int:=if l.lamp=1 then max (yf p-1-l.tk) 0 else if l.lamp=2 then p.yel-1-l.tk else if l.lamp=3 then p.red-1-l.tk else 0
def xk (l:Li):Int:=if l.lamp=1\/l.lamp=2 then l.lamp else 0
def vk (p:Ph) (h:Ex p) (l:Li) (B: -1000000000000<=l.tk/\l.tk<=1000000000000) (z: -1000<=yf p/\yf p<=1000) (C: -1000<=p.yel/\p.yel<=1000) (A: -1000<=p.red/\p.red<=1000):zN 153 [xN p,xE l] [] (iA (Qr p l)) []:=by
 have c:=xf p h;unfold Qr;generalize yf p=n at *;by_cases h1:l.lamp=1
 .rw[zAs h1];refine eM call153 λF hF=>?_
  exact nl c
 rw[Os h1];by_cases h2:l.lamp=2
 .rw[zAs h2];refine eM call153 λF hF=>?_
  exact mx
 rw[Os h2];by_cases u:l.lamp=3
 .rw[zAs u];refine eM call153 λF hF=>?_
  exact mx
 .rw[Os u];refine eM call153 λF hF=>?_
  exact mx
def PG (s:Sg) (n i:Nat):List Int:=aZ (λp _=>xk (xR s.c p)) (pi n 0) i
def EJ (j:Jn) (s:Sg) (n i:Nat):List Int:=aZ (λp _=>Qr (yG j p) (xR s.c p)) (pi n 0) i
def XL (j:Jn) (s:Sg) (v:Sv):Vw:=if s.lat=true then O4 (ln j.ph) else⟨false,v.ph != -1,PG s (ln j.ph) (ln j.ph),EJ j s (ln j.ph) (ln j.ph)⟩
def Q9 (n:Nat):pi n (iA 0)=(pi n (0:Int)).map iA:=by simp
theorem gz (j:Jn) (J:JV j) (s:Sg) (C:CV j s.c) (v:Sv):zN 83 [wD j,wU s,wP v] [] (vG (XL j s v)) []:=by
 have k:=Fs j J.n.2;have hl:=zA xN j.ph;have hn:=J.n;have Y:(s.c.li.map xE).length=ln j.ph:=by rw[zAt];exact C.n
 unfold XL;rw[Q9]at k;unfold wU wP
 cases O:s.lat with
 |true=>
  rw[zAs Z];unfold wD at *;refine eM call83 λF hF=>?_
  refine zS k ?_;refine zI [] Z Z ?_ Z
  show AV.agg [bA true,bA false,.sl false (p5 (j.ph.map xN).length ((pi (j.ph.map xN).length (0:Int)).map iA)),.sl false (p5 (j.ph.map xN).length ((pi (j.ph.map xN).length (0:Int)).map iA))]=_
  rw[zA2 zV,hl];rfl
 | false=>
  rw[Os zA9];have e1:(pi (j.ph.map xN).length (0:Int)).map iA=(PG s (ln j.ph) 0).map iA:=by unfold PG;rw[qM,hl]
  have I:(pi (j.ph.map xN).length (0:Int)).map iA=(EJ j s (ln j.ph) 0).map iA:=by unfold EJ;rw[qM,hl]
  have k:zN 79 [wD j] [] (.agg [bA true,bA false,.ref 1021 0 (j.ph.map xN).length,.ref 1022 0 (j.ph.map xN).length]) [(1021,.arr 1 ((PG s (ln j.ph) 0).map iA) false),(1022,.arr 1 ((EJ j s (ln j.ph) 0).map iA) false)]:=by rw[<-e1,<-I];exact k
  clear e1 I;have u:∀i,((PG s (ln j.ph) i).map iA).length=ln j.ph:=λi=>by rw[zAt];unfold PG;rw[wT,zCk]
  have z:∀i,((EJ j s (ln j.ph) i).map iA).length=ln j.ph:=λi=>by rw[zAt];unfold EJ;rw[wT,zCk]
  have L:∀i,i<ln j.ph->(PG s (ln j.ph) (i+1)).map iA=((PG s (ln j.ph) i).map iA).set i (iA (xk (xR s.c i))):=λi hi=>by unfold PG;rw[vN _ _ _ _ (by rw[zCk];exact hi)]
  have M:∀i,i<ln j.ph->(EJ j s (ln j.ph) (i+1)).map iA=((EJ j s (ln j.ph) i).map iA).set i (iA (Qr (yG j i) (xR s.c i))):=λi hi=>by unfold EJ;rw[vN _ _ _ _ (by rw[zCk];exact hi)]
  unfold wD zE at *;refine eM call83 λF hF=>?_
  refine zS k ?_;refine zO ((j.ph.map xN).length) [1021,1022,4,6,7] [4,6,7] [4,6,7,22,23] [24,4,6,7,22,23] Z (λi T U=>⟨(24,iA i)::T,(1021,.arr 1 ((PG s (ln j.ph) i).map iA) false)::(1022,.arr 1 ((EJ j s (ln j.ph) i).map iA) false)::U⟩) (Lq ?_ ?_)
  .intro i hi;have hi':i<ln j.ph:=by omega
   have hy:(j.ph.map xN)[i]? =some (xN (yG j i)):=zJ xN j.ph i hi';have hz:(s.c.li.map xE)[i]? =some (xE (xR s.c i)):=zJ xE s.c.li i (by have:=C.n;omega);have ht:=J.ti i hi';have hv:=C.k i hi';have x1:=u i;have x2:=z i;have V:=L i hi';have W:=M i hi'
   have E: -1000000000000<=(xR s.c i).tk/\(xR s.c i).tk<=1000000000000:=by
    unfold Ea at hv
    repeat' split at hv
    all_goals (first|(rw[zAz]at hv;omega)|cases hv)
   have G:=vk (yG j i) ⟨zB,zB,zB,zB⟩ (xR s.c i) E (by unfold yf;omega) zB zB;rw[V,W];have a1:((PG s (ln j.ph) i).map iA)[i]? =some (iA ((PG s (ln j.ph) i).getD i dd)):=zJ iA _ i (by rw[zAt]at x1;omega);have a2:(((PG s (ln j.ph) i).map iA).set i (iA 0))[i]? =some (iA 0):=by rw[zD1,zAs Z,zAs zB]
   have a3:((EJ j s (ln j.ph) i).map iA)[i]? =some (iA ((EJ j s (ln j.ph) i).getD i dd)):=zJ iA _ i (by rw[zAt]at x2;omega);clear V W L M u z k;generalize (PG s (ln j.ph) i).getD i dd=v1,(EJ j s (ln j.ph) i).getD i dd=v2,Qr (yG j i) (xR s.c i)=cc,(PG s (ln j.ph) i).map iA=A,(EJ j s (ln j.ph) i).map iA=B at *;generalize yG j i=p at *;unfold xk;generalize xR s.c i=l at *;obtain⟨S,tk⟩:=l;dsimp only at *;by_cases h1:S=1
   .rw[zAs (.inl h1),<-zE4 (a:=iA 0)];refine zS G ?_;rfl
   by_cases h2:S=2
   .rw[zAs (.inr h2),<-zE4 (a:=iA 0)];refine zS G ?_;rfl
   .rw[Os (λh=>h.elim h1 h2)];refine zS G ?_;rfl
  ·(refine WW ?_)
   refine zI [] Z Z ?_ Z
   show AV.agg [bA false,bA (v.ph != -1),.sl false (p5 (j.ph.map xN).length ((PG s (ln j.ph) (j.ph.map xN).length).map iA)),.sl false (p5 (j.ph.map xN).length ((EJ j s (ln j.ph) (j.ph.map xN).length).map iA))]=_
   rw[zA2 (by rw[u];omega),zA2 (by rw[z];omega),hl];rfl
theorem uk (j:Jn) (J:JV j) (s:Sg) (v:Sv):ma (XL j s v):=by
 have u:=J.n.2;unfold XL;split
 .exact M7 u
 .refine⟨by show(PG _ _ _).length<=8;unfold PG;rw[wT,zCk];exact u,by show(EJ _ _ _ _).length<=8;unfold EJ;rw[wT,zCk];exact u,λx z=>?_⟩;obtain⟨i,hi,rfl⟩:=zDa z;have h1:=vS (λp (_:Int)=>xk (xR s.c p)) (pi (ln j.ph) 0) (ln j.ph) i
  grind [XL,PG,List.getElem?_eq_getElem,wT,xk,List.length_replicate]
def uA (n:Int):AV:= .s (.int .u32 n)
def Fg (a b:Int):Int:=IntKind.u32.wrap (BitVec.ofInt IntKind.u32.bits a ^^^ BitVec.ofInt IntKind.u32.bits b).toNat
def dz (a b:Int):Int:=IntKind.u32.wrap (BitVec.ofInt IntKind.u32.bits a &&& BitVec.ofInt IntKind.u32.bits b).toNat
def Nr (a b:Int):Int:=IntKind.u32.wrap (BitVec.ofInt IntKind.u32.bits a ||| BitVec.ofInt IntKind.u32.bits b).toNat
def P6 (a:Int) (n:Nat):Int:=a.fdiv (2 ^ (min n IntKind.u32.bits))
def P9 (r:Int):Int:=if dz r 1=1 then Fg (P6 r 1) 3988292384 else P6 r 1
def G5 (r:Int):Nat->Int
 |0=>r
 |i+1=>P9 (G5 r i)
def crB (r x:Int):Int:=G5 (Fg r x) 8
def cz (r:Int) (l:List Int):Int:=l.foldl crB r
def QJ (l:List Int):Int:=HN .u32 (cz (HN .u32 0) l)
def qk (r:Int) (l:List Int) (x:Int):cz r (l++[x])=crB (cz r l) x:=by simp[cz]
section
variable {P:Program} {tm:List (Nat×AV)} {h:List (Nat×xW)} {tx ty:Nat} {x y:Operand} {m n:Int}
def DK (u:yX (zK tm) x= .s (.int .u32 m)) (z:yX (zK tm) y= .s (.int .u32 n)):wZ P ⟨tm,h⟩ (.binOp .and tx x y ty) (.s (.int .u32 (dz m n))) [] [] []:=PL u z
def PH (u:yX (zK tm) x= .s (.int .u32 m)) (z:yX (zK tm) y= .s (.int .u32 n)):wZ P ⟨tm,h⟩ (.binOp .or tx x y ty) (.s (.int .u32 (Nr m n))) [] [] []:=HP u z
end
def Es (r:Int) (l:List Int) (hl:ln l<=1000000) (hb:BY l):zN 301 [uA r,zE yA l] [] (uA (HN .u32 (cz (HN .u32 r) l))) []:=by
 have E:=zA yA l;refine eM call301 λF hF=>?_
 (repeat' (first|refine uS ?_|apply yW|apply xH|intro hc|(apply zG;first|(apply Fk;refine wM (Ue Z) Z ?_))|fail))
 generalize HN .u32 r=B at *;refine zU (l) [] [] [11,12] [5,13,11,12] Z (λi ga T U=>⟨(5,uA (cz B ga))::(13,iA i)::T,U⟩) (Lq ?_ ?_)
 .intro i ga x post u hi;have I:=yJ yA u hi;have G:=zW u hi;have C:=hb x (xA u);rw[qk];clear u;generalize cz B ga=q at *;refine WW ?_;refine zO (8) [] [] [11,12,13] [5,21,11,12,13] Z (λi T U=>⟨(5,uA (G5 (Fg q x) i))::(21,iA i)::T,U⟩) (Lq ?_ ?_)
  .intro k hk;have e:G5 (Fg q x) (k+1)=P9 (G5 (Fg q x) k):=rfl;rw[e];generalize G5 (Fg q x) k=z at *;unfold P9;by_cases A:dz z 1=1
   .rw[zAs A]
    (repeat' (first|refine uS ?_|apply yW|apply xH|intro hc|(apply zG;first|(apply wY;refine wM (DK Z Z) Z ?_))|fail))
    rfl
   .rw[Os A]
    (repeat' (first|refine uS ?_|apply yW|apply xH|intro hc|(apply zG;first|(apply wY;refine wM (DK Z Z) Z ?_))|fail))
    rfl
  ·(refine WW ?_)
   rfl
 ·(repeat' (first|refine uS ?_|apply yW|apply xH|intro hc|(apply zG;first|(apply Fk;refine wM (Ue Z) Z ?_))|fail))
  exact zH
def Ub (l:List Int) (hl:ln l<=1000000) (hb:BY l):zN 261 [zE yA l] [] (uA (QJ l)) []:=by
 have c:=Es 0 l hl hb;refine eM call261 λF hF=>?_
 exact nl c
def jk (l:List Int):0<=QJ l/\QJ l<4294967296:=by
 unfold QJ HN IntKind.wrap;simp[IntKind.signed,IntKind.bits];omega
def Eg (l:List Int):Int:=l.foldl (λn x=>Nr (IntKind.u32.wrap (n*2 ^ (min (8:Int).toNat IntKind.u32.bits))) x) 0
def Xx (s:Int):List Int:=(py 4).map λi:Nat=>IntKind.u8.wrap (s.fdiv (2 ^ (min (8*(3-(i:Int))).toNat IntKind.u32.bits)))
def HA (k:Int) (n:Nat):List Int:=[1,k,0,(n:Int)]
def Tb (k:Int) (p:List Int):List Int:=90::165::(HA k (ln p)++p)++Xx (QJ (HA k (ln p)++p))
section
variable {P:Program} {TT:List TI} {K0:List Nat} {F:Fr K0} {m:Nat} {ops:Array Oper} {rest:List Oper} {Q:List FP->St->Prop} {tm:List (Nat×AV)} {h:List (Nat×xW)} {dr:Bool} {fs:List FP} {ty:Nat} {pos:String} {after:Array Edge} {t:Nat}
end
theorem O6 {k:Int} {p:List Int} (z:0<=k) (A:k<=255) (hb:BY p) (u:ln p<=200):BY (HA k (ln p)++p):=by grind [BY,HA]
def pz (k:Int) (p:List Int) (z:0<=k) (A:k<=255) (hb:BY p) (u:ln p<=200):JC [iA k,zE yA p] [] (.tup [zE yA (Tb k p),iA 0]) []:=Zk
def oz (y:Int):0<=IntKind.u8.wrap y/\IntKind.u8.wrap y<256:=by
 unfold IntKind.wrap;simp[IntKind.signed,IntKind.bits];omega
def Wx (s:Int):List Int:=[IntKind.u8.wrap (s.fdiv (2 ^ (min (24:Int).toNat IntKind.u32.bits))),IntKind.u8.wrap (s.fdiv (2 ^ (min (16:Int).toNat IntKind.u32.bits))),IntKind.u8.wrap (s.fdiv (2 ^ (min (8:Int).toNat IntKind.u32.bits))),IntKind.u8.wrap s]
def pe (k:Int) (p:List Int) (I:0<=k) (L:k<=255) (hb:BY p) (G:ln p<=200):∃q,q=90::165::(HA k (ln p)++p)++Wx (QJ (HA k (ln p)++p))/\BY q/\q.length=ln p+10/\zN 215 [iA k,zE yA p] [] (.tup [.ref 1031 0 (q.map yA).length,iA 0]) [(1031,.arr 1 (q.map yA) true)]:=by
 have E:=zA yA p;have hh:∀y,(p.map yA)[0]? =some y->ln y.cells=1:=yM _ _ (λ_=>rfl)
 have B:IntKind.u8.wrap (vQ (((p.map yA).length:Nat):Int) 8)=0:=by
  have:vQ (((p.map yA).length:Nat):Int) 8=0:=by
   unfold vQ;rw[zAt,zC0 _ yY]
   show(ln p:Int)/256=0
   omega
  rw[this];rfl
 have z:=O6 I L hb G;have A:=Ub (HA k (ln p)++p) (by unfold HA;simp;omega) z
 have A:zN 261 [.sl false ((([AV.s (.int .u8 90),.s (.int .u8 165),.s (.int .u8 1),.s (.int .u8 k),.s (.int .u8 (IntKind.u8.wrap (vQ (((p.map yA).length:Nat):Int) 8))),.s (.int .u8 (((p.map yA).length:Nat):Int))]++p.map yA).drop 2).take (([AV.s (.int .u8 90),.s (.int .u8 165),.s (.int .u8 1),.s (.int .u8 k),.s (.int .u8 (IntKind.u8.wrap (vQ (((p.map yA).length:Nat):Int) 8))),.s (.int .u8 (((p.map yA).length:Nat):Int))]++p.map yA).length-2))] [] (uA (QJ (HA k (ln p)++p))) []:=by
  rw[B,zAt];rw[zA2 zV];exact A
 generalize QJ (HA k (ln p)++p)=s at *;refine⟨90::165::(HA k (ln p)++p)++Wx s,rfl,?_,?_,?_⟩
 .intro x u
  rcases zBe.1 u with u|u
  .simp only[zCh]at u
   rcases u with rfl|rfl|u
   .omega
   .omega
   .exact z x u
  .simp only[Wx,zCh,List.not_mem_nil,or_false]at u
   rcases u with rfl|rfl|rfl|rfl<;>exact oz _
 .simp[HA,Wx]
 have C:(90::165::(HA k (ln p)++p)++Wx s).map yA=([AV.s (.int .u8 90),.s (.int .u8 165),.s (.int .u8 1),.s (.int .u8 k),.s (.int .u8 (IntKind.u8.wrap (vQ (((p.map yA).length:Nat):Int) 8))),.s (.int .u8 (((p.map yA).length:Nat):Int))]++p.map yA)++[.s (.int .u8 (IntKind.u8.wrap (s.fdiv (2 ^ (min (24:Int).toNat IntKind.u32.bits))))),.s (.int .u8 (IntKind.u8.wrap (s.fdiv (2 ^ (min (16:Int).toNat IntKind.u32.bits))))),.s (.int .u8 (IntKind.u8.wrap (s.fdiv (2 ^ (min (8:Int).toNat IntKind.u32.bits))))),.s (.int .u8 (IntKind.u8.wrap s))]:=by
  rw[B,zAt];simp only[HA,Wx,zA0,zCc,zCm,zD8,zD3,zBl];rfl
 rw[C];refine eM call215 λF hF=>?_
 (have gd:=A;(repeat' (first|refine jZ ?_|apply yW|apply xH|intro hc|(apply zG;first|(apply yH;first|refine uT (nw:=[1031]) (yV tok 1031 (xs:=[_,_,_,_,_,_]) Z Z Z Z Z Z Z Z Z) Z Z Z ?_|refine vD tok Z Z ?_)|(apply gY;refine dM tok Z Z Z Z Z Z Z zB (by simp<;>omega) Z ?_))|refine SB ?_|fail))<;>clear gd)
 exact zP [1031] Z Z Z Z
def gk (m:Ms) (h:L3 m):∃q,BY q/\q.length<=210/\zN 162 [zX m] [] (.tup [.ref 1031 0 (q.map yA).length,iA 0]) [(1031,.arr 1 (q.map yA) true)]:=by
 obtain⟨p,h1,h2,u⟩:=oq m h;have hk:=h.k;obtain⟨q,_,q1,A,z⟩:=pe m.kind p zB zB h1 h2;refine⟨q,q1,zB,?_⟩;unfold zX at *;refine eM call162 λF hF=>?_
 refine yF (xQ u z) ?_;exact zP [1031] Z Z Z Z
def DL (m:Ms) (h:L3 m):∃q,BY q/\q.length<=210/\zN 95 [zX m] [] (.ref 1031 0 (q.map yA).length) [(1031,.arr 1 (q.map yA) true)]/\zN 95 [zX m] [] (zE yA q) []:=by
 obtain⟨q,q1,z,u⟩:=gk m h;refine⟨q,q1,z,?_,?_⟩
 .unfold zX at *;refine eM call95 λF hF=>?_
  refine zS u ?_;exact zP [1031] Z Z Z Z
 .unfold zX at *;refine eM call95 λF hF=>?_
  refine zS u ?_;exact zI [] Z Z (zBd (AV.sl false) zAv) Z
def DM (m:Ms) (h:L3 m):∃q,BY q/\q.length<=210/\zN 95 [zX m] [] (zE yA q) []:=by
 obtain⟨q,q1,z,_,u⟩:=DL m h;exact⟨q,q1,z,u⟩
def jJ (l:List Ag):Nat->Int
 |0=>0
 |i+1=>jJ l i+(l.getD i dd).ses
def LX (l:List Ag):Prop:=ln l<=4/\∀a∈l,1<=a.ses/\a.ses<=2
theorem LX.at (h:LX l) {i:Nat} (hi:i<ln l):1<=(l.getD i dd).ses/\(l.getD i dd).ses<=2:=by grind [LX]
theorem kG (h:LX l):∀i,i<=ln l->(i:Int)<=jJ l i/\jJ l i<=2*i
 |0,_=>⟨zC3 _,zC3 _⟩
 |i+1,hi=>by
  have h1:=kG h i zB;have h2:=h.at (i:=i) zB;unfold jJ;omega
def Cs (c:Cf) (h:LX c.ags):zN 93 [wH c] [] (iA (jJ c.ags (ln c.ags))) []:=by
 have u:=zA uF c.ags;have A:=h.1;unfold wH zE;refine eM call93 λF hF=>?_
 refine WW ?_;refine zO ((c.ags.map uF).length) [] [] [7,8] [3,9,7,8] Z (λi T U=>⟨(3,iA (jJ c.ags i))::(9,iA i)::T,U⟩) (Lq ?_ ?_)
 .intro i hi;have B:=zJ uF c.ags i zB;have h2:=h.at (i:=i) zB;have hb:=kG h i zB;rw[show jJ c.ags (i+1)=jJ c.ags i+(c.ags.getD i dd).ses from Z];generalize jJ c.ags i=z,c.ags.getD i dd=a at *;refine WW ?_;rfl
 .rw[u];exact mx
def Ia (l:List Ag) (g:Int):Nat->Int
 |0=>0
 |i+1=>if(i:Int)<g then Ia l g i+(l.getD i dd).ses else Ia l g i
theorem Sb (h:LX l) (g:Int):∀i,i<=ln l->0<=Ia l g i/\Ia l g i<=2*i
 |0,_=>⟨zC3 _,zC3 _⟩
 |i+1,hi=>by
  have h1:=Sb h g i zB;have h2:=h.at (i:=i) zB;unfold Ia
  split<;>omega
def Bs (c:Cf) (h:LX c.ags) (g:Int):zN 94 [wH c,iA g] [] (iA (Ia c.ags g (ln c.ags))) []:=by
 have u:=zA uF c.ags;have B:=h.1;unfold wH zE;refine eM call94 λF hF=>?_
 refine WW ?_;refine zO ((c.ags.map uF).length) [] [] [1,9,10] [5,11,1,9,10] Z (λi T U=>⟨(5,iA (Ia c.ags g i))::(11,iA i)::T,U⟩) (Lq ?_ ?_)
 .intro i hi;have C:=zJ uF c.ags i zB;have h2:=h.at (i:=i) zB;have hb:=Sb h g i zB;by_cases A:(i:Int)<g
  .rw[show Ia c.ags g (i+1)=Ia c.ags g i+(c.ags.getD i dd).ses from zAs A];generalize Ia c.ags g i=z,c.ags.getD i dd=a at *;refine WW ?_;rfl
  .rw[show Ia c.ags g (i+1)=Ia c.ags g i from Os A];generalize Ia c.ags g i=z,c.ags.getD i dd=a at *;refine WW ?_;rfl
 .rw[u];exact mx
def HB:List Ag->Int->Nat->Option (Nat×Int)
 | [],_,_=>none
 |a::l,s,i=>if s<a.ses then some (i,s)else HB l (s-a.ses) (i+1)
theorem zt (l:List Ag) (s:Int) (i:Nat) (h:i<ln l):HB (l.drop i) s i=if s<(l.getD i dd).ses then some (i,s)else HB (l.drop (i+1)) (s-(l.getD i dd).ses) (i+1):=by grind [HB,List.getD,List.getElem_cons_drop]
def Rb (l:List Ag) (s:Int):Int:=match HB l s 0 with
 |some p=>p.1
 |none=>0
theorem oe:∀(l:List Ag) (s:Int) (i:Nat) (p:Nat×Int),HB l s i=some p->p.1<i+ln l
 | [],_,_,_,h=>by cases h
 |a::l,s,i,p,h=>by
  unfold HB at h;split at h
  .cases h;simp only[zA8];omega
  .have:=oe l _ _ p h;simp only[zA8];omega
def nz (h:LX l) (s:Int):0<=Rb l s/\Rb l s<4:=by
 unfold Rb;split
 .rename_i p u;have:=oe l s 0 p u;have:=h.1;omega
 .omega
def fk (c:Cf) (h:LX c.ags) (s:Int) (I: -1000<=s) (L:s<=1000):zN 97 [wH c,iA s] [] (iA (Rb c.ags s)) []:=by
 have u:=zA uF c.ags;have E:=h.1;unfold Rb wH zE;refine eM call97 λF hF=>?_
 refine WW ?_;refine yU ((c.ags.map uF).length) [] [] [8,9] [1,10,8,9] Z (λi T U B=>∃(z:Int),(HB c.ags s 0=HB (c.ags.drop i) z i/\ -1000-2*(i:Int)<=z/\z<=1000)/\B=⟨(1,iA z)::(10,iA i)::T,U⟩) (Lp ?_ ?_ ?_)
 .exact⟨s,⟨rfl,zB,zB⟩,rfl⟩
 .rintro i st hi ⟨z,⟨hz,z0,z1⟩,rfl⟩;have G:=zJ uF c.ags i zB;have h2:=h.at (i:=i) zB;rw[zt c.ags z i zB]at hz;generalize C:c.ags.drop (i+1)=D at *;generalize c.ags.getD i dd=a at *;by_cases A:z<a.ses
  .rw[zAs A]at hz;rw[hz];exact mx
  .rw[Os A]at hz;refine WW ?_;exact⟨_,⟨hz,zB,zB⟩,rfl⟩
 .rintro st ⟨z,⟨hz,z0,z1⟩,rfl⟩;rw[u,zEw]at hz;rw[hz];exact mx
structure Ha (e:Ev):Prop where
 k:1<=e.k/\e.k<=6
 s:0<=e.s/\e.s<=100
 a:0<=e.a/\e.a<=100
 b:0<=e.b/\e.b<=100
 y:BY e.y
 n:e.y.length<=1000
def uj {k s a b:Int} {y:List Int} (hk:1<=k/\k<=6) (A:0<=s/\s<=100) (u:0<=a/\a<=100) (hb:0<=b/\b<=100) (B:BY y) (z:ln y<=1000):Ha ⟨k,s,a,b,y⟩:=⟨hk,A,u,hb,B,z⟩
def jV:BY []:=λx u=>by cases u
theorem mz (c:Cf) (s:Int) (s0:0<=s) (s1:s<=100) (M:Bool) (d:Dk):∃(e:Ev) (O:Dk),Ha e/\rem O<=rem d/\zN 96 [.ptr 1000 0 0,wH c,iA s,bA M] [(1000,fF d)] (hH e) [(1000,fF O)]:=by
 have A:=yR d 6 zB zB;have b1:=yQ d 6 zB;have I:=vF d;generalize nx d 6=k,ad d=u at *;unfold hH zE;by_cases h0:k=0
 .refine⟨⟨2,s,0,0,[]⟩,u,uj zB zB zB zB jV zV,I,?_⟩;refine eM call96 λF hF=>?_
  refine zS A ?_;exact zI [1000] Z Z Z Z
 by_cases h1:k=1
 .refine⟨⟨1,s,0,0,[]⟩,u,uj zB zB zB zB jV zV,I,?_⟩;refine eM call96 λF hF=>?_
  refine zS A ?_;exact zI [1000] Z Z Z Z
 by_cases h2:k=2
 .have B:=yR u 4 zB zB;have C:=yQ u 4 zB;have L:=vF u;have G:=yR (ad u) 50 zB zB;have S:=yQ (ad u) 50 zB;have Y:=vF (ad u);have V:=cD (nx (ad u) 50);refine⟨⟨4,0,nx u 4,0,cL (nx (ad u) 50)⟩,ad (ad u),uj zB zB zB zB (OI _) (by rw[fA];omega),zB,?_⟩;generalize nx (ad u) 50=q at *;generalize nx u 4=p at *;generalize cL q=y at *;refine eM call96 λF hF=>?_
  refine yF (cI A B G V) ?_;exact zI [1000] Z Z Z Z
 cases M with
 |true=>
  refine⟨⟨6,0,0,0,[]⟩,u,uj zB zB zB zB jV zV,I,?_⟩;refine eM call96 λF hF=>?_
  refine zS A ?_;exact zI [1000] Z Z Z Z
 |false=>
 by_cases h3:k=3
 .have B:=yR u 3 zB zB;have C:=yQ u 3 zB;have L:=vF u;have G:=yR (ad u) 9 zB zB;have S:=yQ (ad u) 9 zB;have Y:=vF (ad u);refine⟨⟨5,0,nx u 3,nx (ad u) 9,[]⟩,ad (ad u),uj zB zB zB zB jV zV,zB,?_⟩;generalize nx (ad u) 9=q at *;generalize nx u 3=p at *;refine eM call96 λF hF=>?_
  refine yF (qC A B G) ?_;exact zI [1000] Z Z Z Z
 by_cases h4:k=4
 .have B:=yR u 120 zB zB;have C:=yQ u 120 zB;have L:=vF u;refine⟨⟨3,s,0,0,pi (150+nx u 120).toNat 0⟩,ad u,uj zB zB zB zB (λx U=>by have:=(zEp.1 U).2;omega) (by rw[zCk];omega),zB,?_⟩;generalize nx u 120=q at *;refine eM call96 λF hF=>?_
  have E:150+q=(((150+q).toNat:Nat):Int):=by omega
  (have gd:=A;have gn:=B;(repeat' (first|refine uS ?_|apply yW|apply xH|intro hc|(apply zG;first|(apply fQ;refine We tok Z Z Z Z Z Z Z Z Z Z Z Z E zB zB Z Z Z ?_))|fail))<;>clear gd gn)
  have e:p5 (150+q).toNat (List.drop 0 (pi (150+q).toNat (yA 0)))=(pi (150+q).toNat 0).map yA:=by rw[zBf,zA2 zV,zEh]
  exact zI [1000] Z Z (zBd (λz=>AV.agg [iA 3,iA s,iA 0,iA 0,.sl false z]) e) Z
 .have B:=gq u 9 zB zB;have C:=yQ u (9+1) zB;obtain⟨p1,p2,W⟩:=Gd (ad u) (nx u (9+1)).toNat;have L:=vF u;refine⟨⟨3,s,0,0,(eW (ad u) (nx u (9+1)).toNat).1⟩,(eW (ad u) (nx u (9+1)).toNat).2,uj zB zB zB zB W zB,zB,?_⟩;generalize (eW (ad u) (nx u (9+1)).toNat).1=y at *;generalize (eW (ad u) (nx u (9+1)).toNat).2=d2 at *;refine eM call96 λF hF=>?_
  refine yF (xQ A B) ?_;exact zI [1000] Z Z Z Z
def KW (l:List Ev) (n:Nat):Prop:=ln l<=n/\∀e∈l,Ha e
theorem KW.nil:KW [] 0:=⟨zAy _,λe h=>by cases h⟩
theorem KW.app {l:List Ev} (h:KW l n) {e:Ev} (z:Ha e):KW (l++[e]) (n+1):=
 ⟨by have:=h.1;rw[zAx,zCx];omega,λx u=>(zBe.1 u).elim (h.2 x) λu=>by rw[zBm.1 u];exact z⟩
theorem KW.le {l:List Ev} {m:Nat} (h:KW l n) (u:n<=m):KW l m:=⟨zBx h.1 u,h.2⟩
def lz (g v:Int) (u:0<=g/\g<256) (hv:0<=v/\v<=100):L3 ⟨4,g::0::cL (1000+g),[v,v.tmod 2],[]⟩:=by
 have h1:=zGa 2 hv.1;have h2:v.tmod 2<2:=zFs v zB;exact⟨Gp u zB (OI _),by simp[fA],by dsimp only;omega,.cons zB (.cons zB .nil),⟨0,zB,λh=>absurd Z h,rfl⟩,rfl⟩
structure Qb (c:Cf):Prop where
 j:1<=c.js.length/\c.js.length<=4
 jv:∀j∈c.js,JV j
 a:1<=c.ags.length/\c.ags.length<=4
 av:∀a∈c.ags,Ty a
 p:1<=c.per/\c.per<=600
 cp:0<=c.cap/\c.cap<=100
 h:1<=c.hold/\c.hold<=60
 l:0<=c.lock/\c.lock<=600
theorem Qb.w {c:Cf} (h:Qb c):IN c:=⟨h.j.2,λj hj=>(h.jv j hj).n⟩
theorem Qb.ag {c:Cf} (h:Qb c):LX c.ags:=⟨h.a.2,λa u=>(h.av a u).e⟩
def N6 (d:Dk) (r:Int) (z:0<=r/\r<=63):Qb (FN d r):=by
 have C:=L7 d r;have h1:=yQ d (4-1+1) zB;have h2:=yQ (ad d) 4 zB;have A:=yQ (ad (ad d)) (3-1+1) zB;have B:=yQ (ad (ad (ad d))) 5 zB;refine⟨zB,λj hj=>?_,zB,λa u=>?_,?_,?_,?_,?_⟩
 .rw[vq]at hj;obtain⟨e,rfl⟩:=fg _ _ j hj;exact Az e
 .obtain⟨i,hi,rfl⟩:=zDa u;have:=(N4 d r z (i:Int) zB zB).1.v;rw[show(i:Int).toNat=i from Z]at this;rw[show(FN d r).ags[i]=(FN d r).ags.getD i dd by simp[qd,hi]];exact this
 all_goals (unfold FN;dsimp only;omega)
def LY (c:Cf) (i:Nat):List wC:=(py i).map λk:Nat=>QY (k:Int) (c.ags.getD k dd) (c.ags.getD k dd).ses.toNat
def HC (j:Jn):Sv:=th (ln j.ph)
def UD (c:Cf):Cy:=⟨c,false,0,LY c (ln c.ags),c.js.map fO,c.js.map HC,c.js.map λ_=> -1,c.js.map λj=>XL j (fO j) (HC j)⟩
def rz (j:Int) (x:Lg):zN 160 [yO x,.ptr 5 0 0] [(5,.box [iA j])] (bA (x.jn==j)) [(5,.box [iA j])]:=by
 refine eM call160 λF hF=>?_
 refine WW ?_;exact zP [5] Z Z Z Z
def iz (j:Int) (l:List Lg) (hb:ln l<=1000):zN 159 [zE yO l,.fn 160 [.ptr 5 0 0]] [(5,.box [iA j])] (iA (TF (λr:Lg=>r.jn==j) l)) [(5,.box [iA j])]:=by
 have hl:=zA yO l;refine eM call159 λF hF=>?_
 refine WW ?_;refine uW (l) [5] [5] [0,1,7] [8,0,1,7] Z (λi ga T U E=>(∀y∈ga,(y.jn==j)=false)/\E=⟨(8,iA i)::T,U⟩) (Lp ?_ ?_ ?_)
 .exact⟨by simp,rfl⟩
 .rintro i ga x post st z hi ⟨hp,rfl⟩;have A:=yJ yO z hi;have C:=zW z hi;have c:=rz j x;have u:=OA (p:=λr:Lg=>r.jn==j) z hp
  cases B:(x.jn==j)<;>rw[B]at c
  .clear z u;refine zS c ?_;exact⟨λy A=>by simp only[zBe,zBm]at A;rcases A with A|rfl;exact hp y A;exact B,rfl⟩
  .rw[u B,hi];clear z u;refine zS c ?_;exact zP [5] Z Z Z Z
 .rintro st ⟨hp,rfl⟩;rw[bU hp];refine WW ?_;exact zP [5] rfl rfl rfl rfl
def OX (u j:Int) (x:Rq):List Cl:=if TF (λr:Lg=>r.jn==j) x.legs<0 then []else if(x.legs.getD (TF (λr:Lg=>r.jn==j) x.legs).toNat dd).sc= -1 then []else [⟨u,x.id,(x.legs.getD (TF (λr:Lg=>r.jn==j) x.legs).toNat dd).ph,x.cls,(x.legs.getD (TF (λr:Lg=>r.jn==j) x.legs).toNat dd).sc⟩]
def fI (u j:Int) (l:List Rq):List Cl:=(l.map (OX u j)).flatten
theorem ak (u j:Int) (x:Rq):(OX u j x).length<=1:=by grind [OX]
def KX (u j:Int) (l:List Rq) (x:Rq):fI u j (l++[x])=fI u j l++OX u j x:=by simp[fI]
theorem dU (u j:Int):∀l:List Rq,(fI u j l).length<=ln l
 | []=>zAy _
 |x::l=>by
  have h1:=ak u j x;have h2:=dU u j l;have e:fI u j (x::l)=OX u j x++fI u j l:=rfl;rw[e,zAx,zA8];omega
def Dg (l:List Rq) (u j:Int) (V:ln l<=1000) (hb:∀r∈l,ln r.legs<=1000):zN 89 [zE zY l,iA u,iA j] [] (zE kD (fI u j l)) []:=by
 have hl:=zA zY l;refine eM call89 λF hF=>?_
 refine WW ?_;refine zQ 7 1001 5 Z Z Z ?_;refine zU (l) [1001,5] [5] [1,5,12,13] [7,14,1,5,12,13] Z (λi ga T U=>⟨(7,.ref 1001 0 ((fI u j ga).map kD).length)::(14,iA i)::T,(1001,.arr 5 ((fI u j ga).map kD) true)::U⟩) (Lq ?_ ?_)
 .intro i ga x post A hi;have Y:=yJ zY A hi;have I:=zW A hi;have B:=iz j x.legs (hb x (xA A));have W:=dU u j ga;have M:((fI u j ga).map kD).length=(fI u j ga).length:=zAt ..;have L:ln ga<=ln l:=by rw[A];simp
  have O:(x.legs.map yO).length=ln x.legs:=zAt ..;rw[KX,zA0]
  have G: -1<=TF (λr:Lg=>r.jn==j) x.legs/\(0<=TF (λr:Lg=>r.jn==j) x.legs->TF (λr:Lg=>r.jn==j) x.legs<ln x.legs):=by
   cases E:x.legs.any (λr:Lg=>r.jn==j)with
   |true=>have:=Nc E;omega
   |false=>rw[TF,E,Os zA9];omega
  unfold OX;clear A;generalize (fI u j ga).map kD=X at *;by_cases C:TF (λr:Lg=>r.jn==j) x.legs<0
  .rw[zAs C,zCm,zBo];generalize TF (λr:Lg=>r.jn==j) x.legs=z at *;refine zS B ?_;rfl
  .rw[Os C];have S:=yE yO x.legs (TF (λr:Lg=>r.jn==j) x.legs) zB zB;generalize TF (λr:Lg=>r.jn==j) x.legs=z at *;generalize x.legs.getD z.toNat dd=g at *;by_cases h1:g.sc= -1
   .rw[zAs h1,zCm,zBo];refine zS B ?_;rfl
   .rw[Os h1];refine zS B ?_;rfl
 ·(refine WW ?_)
  exact zI [] Z Z (zBd (AV.sl false) zAv) Z
def jK (j:Int) (l:List wC):List Cl:=(l.map λd=>fI d.rg.num j d.rq).flatten
def KY (j:Int) (l:List wC) (d:wC):jK j (l++[d])=jK j l++fI d.rg.num j d.rq:=by simp[jK]
theorem OY (j:Int):∀l:List wC,(∀d∈l,ln d.rq<=1000)->(jK j l).length<=1000*ln l
 | [],_=>zAy _
 |d::l,h=>by
  have h1:=dU d.rg.num j d.rq;have h2:=OY j l (λx u=>h x (by simp[u]));have z:=h d zV;have e:jK j (d::l)=fI d.rg.num j d.rq++jK j l:=rfl;rw[e,zAx,zA8];omega
def Cg (c:Cf) (rf:Bool) (f4:Int) (u:List wC) (j:Int) (hd:ln u<=1000) (hb:∀d∈u,dN d) (A B C D:List AV) (a b e f:Nat):
  zN 38 [aF c rf f4 (zE zM u) (.ref 1012 0 a) (.ref 1013 0 b) (.ref 1014 0 e) (.ref 1015 0 f),iA j] [(1012,.arr 5 A false),(1013,.arr 3 B false),(1014,.arr 1 C false),(1015,.arr 4 D false)] (zE kD (jK j u)) [(1012,.arr 5 A false),(1013,.arr 3 B false),(1014,.arr 1 C false),(1015,.arr 4 D false)]:=by
 have hl:=zA zM u;unfold aF;refine eM call38 λF hF=>?_
 refine WW ?_;refine zQ 5 1001 5 Z Z Z ?_;refine zU (u) [1001,1012,1013,1014,1015] [1012,1013,1014,1015] [1,9,10] [5,11,1,9,10] Z (λi ga T U=>⟨(5,.ref 1001 0 ((jK j ga).map kD).length)::(11,iA i)::T,(1001,.arr 5 ((jK j ga).map kD) true)::U⟩) (Lq ?_ ?_)
 .intro i ga x post E hi;have W:=yJ zM E hi;have I:=zW E hi;have z:=hb x (xA E);have G:=Dg x.rq x.rg.num j z.q z.g;have hq:=OY j ga (λd hd=>(hb d (by rw[E];simp[hd])).q);have S:((jK j ga).map kD).length=(jK j ga).length:=zAt ..;have M:=dU x.rg.num j x.rq;have O:((fI x.rg.num j x.rq).map kD).length=(fI x.rg.num j x.rq).length:=zAt ..;have L:ln ga<=ln u:=by rw[E];simp
  have V:=z.q;rw[KY,zA0];clear E;generalize (jK j ga).map kD=X at *;unfold zE at G;generalize fI x.rg.num j x.rq=Y at *;unfold zM xD at W;refine zS G ?_;rfl
 ·(refine WW ?_)
  exact zI [1012,1013,1014,1015] Z Z (zBd (AV.sl false) zAv) Z
def DN (a:Ag) (h:1<=a.ses/\a.ses<=2):zN 119 [uF a] [] (iA a.ses) []:=by
 refine eM call119 λF hF=>?_
 refine WW ?_;refine zI [] Z Z (zBd iA ?_) Z;omega
def nk (a k s:Nat):AV:= .agg [iA a,iA k,iA s]
def Bg (c:Cf) (a:Nat):List (Nat×xW):=[(1103,.box [iA a]),(1104,.box [zE wD c.js,zE uF c.ags,iA c.per,iA c.cap,iA c.hold,iA c.lock])]
def HE (c:Cf) (a:Nat):List (List AV):=(py (c.ags.getD a dd).ses.toNat).map λk=>[nk a k ((jJ c.ags a).toNat+k)]
def me (c:Cf) (a:Nat):zN 49 [wH c,iA a] [] (.fn 118 [.ptr 1104 0 0,.ptr 1103 0 0]) (Bg c a):=by
 unfold wH Bg;refine eM call49 λF hF=>?_
 repeat' (first|(apply zG;first|refine uT (dI (v:=AV.agg _) 1104 Z Z) Z Z Z ?_|refine uT (dI (v:=AV.s _) 1103 Z Z) Z Z Z ?_|refine uM tok Z Z ?_|apply kQ)|(first|apply xX|apply xT|refine vZ Z ?_|refine yS Z ?_|refine yD Z ?_|refine xZ Z (λhc=>?_) λhc=>?_|apply xJ|apply xL|apply xS|apply xB))
 exact zP [1103,1104] Z Z Z Z
def sk (c:Cf) (h:LX c.ags) (a:Nat) (M:a<ln c.ags):TL prog 118 [.ptr 1104 0 0,.ptr 1103 0 0] (Bg c a) (HE c a):=by
 have hl:=zA uF c.ags;have hn:=h.1;have L:=h.at M;refine VO func118 Z (λargs w=>call118 args w) Z Z Z (λF y S I G=>?_);unfold Bg;have V:((c.ags.take (a:Int).toNat).map uF).length=a:=by rw[zAt,zBi];omega
 have B:∀i,i<=a->jJ (c.ags.take a) i=jJ c.ags i:=λi=>by
  induction i with
  |zero=>intro _;rfl
  |succ i Y=>
   intro hi;unfold jJ;rw[Y zB,zA5,zCi,zAs zB,<-zA5]
 refine WW ?_;refine zO (a) [1103,1104] [1103,1104] [0,1,2,11,12] [4,13,1000000,0,1,2,11,12] Z (λi T U=>⟨(4,iA (jJ c.ags i))::(13,iA i)::(1000000,.gh 0)::T,U⟩) (Lq ?_ ?_)
 .intro i hi
  have W:((c.ags.take (a:Int).toNat).map uF)[i]? =some (uF (c.ags.getD i dd)):=by
   show((c.ags.take a).map uF)[i]? =_
   rw[zA1,zCi,zAs hi,zA5,zBq zB];rfl
  have h2:=h.at (i:=i) zB;have hb:=kG h i zB;have E:=DN (c.ags.getD i dd) h2;rw[show jJ c.ags (i+1)=jJ c.ags i+(c.ags.getD i dd).ses from Z];clear B L G;generalize jJ c.ags i=z,c.ags.getD i dd=g at *;refine zS E ?_;rfl
 .have W:=zJ uF c.ags a M;have E:=DN (c.ags.getD a dd) L;have hb:=kG h a zB;obtain⟨u,A⟩:∃u:Nat,jJ c.ags a=(u:Int):=⟨(jJ c.ags a).toNat,zB⟩;obtain⟨N,hN⟩:∃N:Nat,(c.ags.getD a dd).ses=(N:Int):=⟨(c.ags.getD a dd).ses.toNat,zB⟩;have hL:HE c a=(py N).map λk=>[nk a k (u+k)]:=by unfold HE;rw[A,hN];rfl
  rw[A]at hb⊢;rw[hN]at E L;rw[hL]at G⊢;clear hL hN B;generalize c.ags.getD a dd=g at *;refine zS E ?_;refine zO (N) [1103,1104] [1103,1104] [0,2,4,27] [28,1000000,0,2,4,27] Z (λi T U=>⟨(28,iA i)::(1000000,.gh i)::T,U⟩) (Lq ?_ ?_)
  .intro k hk
   have C:((py N).map λk=>[nk a k (u+k)])[k]? =some [nk a k (u+k)]:=by
    rw[zA1,zCn hk];rfl
   have O:k<((py N).map λk=>[nk a k (u+k)]).length:=by simp;exact hk
   rw[show nk a k (u+k)= .agg [iA (a:Int),iA (k:Int),iA ((u:Int)+k)]from by unfold nk;rw[show((u+k:Nat):Int)=(u:Int)+k by omega]]at C;generalize ((py N).map λk=>[nk a k (u+k)])=xs at*
   (repeat' (first|refine uS ?_|apply yW|apply xH|intro hc|(apply zG;apply xP;first|(apply Nf;refine FC I G Z Z C Z Z Z ?_ ?_))|(apply zG;first|refine SM ?_)|fail))
   .rfl
   .exact TM Z (.inr zB)
  ·(refine WW ?_)
   exact ZW Z (.inl zV)
def SO (b:List Int):Nat:=(b.getD 4 0).toNat*256+(b.getD 5 0).toNat
def qj (b:List Int):Option (It×Nat):=
 if (ln b)=0 then none
 else if b.getD 0 0≠90\/(1<ln b/\b.getD 1 0≠165)then some (⟨2,0,[]⟩,1)
 else if (ln b)<6 then none
 else if 200<SO b then some (⟨7,0,[]⟩,1)
 else if (ln b)<SO b+10 then none
 else if QJ ((b.drop 2).take (SO b+4))≠Eg ((b.drop (SO b+6)).take 4)then some (⟨4,0,[]⟩,1)
 else if b.getD 2 0≠1 then some (⟨3,0,[]⟩,SO b+10)
 else if b.getD 3 0<1\/22<b.getD 3 0 then some (⟨5,0,[]⟩,SO b+10)
 else some (⟨0,b.getD 3 0,(b.drop 6).take (SO b)⟩,SO b+10)
def Zz (o:Option (It×Nat)):AV:=match o with
 |none=> .tup [vO ⟨0,0,[]⟩,iA 0,bA false]
 |some x=> .tup [vO x.1,iA x.2,bA true]
theorem or8 {x y:Int} (u:0<=x/\x<256) (z:0<=y/\y<256):rj (IntKind.i64.wrap (x*2 ^ (min (8:Int).toNat IntKind.i64.bits))) y=x*256+y:=by
 have h1:IntKind.i64.wrap (x*2 ^ (min (8:Int).toNat IntKind.i64.bits))=x*256:=by
  rw[show x*2 ^ (min (8:Int).toNat IntKind.i64.bits)=x*256 from Z];exact kI (k:= .i64) ⟨by show -9223372036854775808<=_;omega,by show _<=9223372036854775807;omega⟩
 rw[h1];obtain⟨a,rfl⟩:=zCo u.1;obtain⟨c,rfl⟩:=zCo z.1;have h2:=FH (a*256) c zB zB;have A:=zEd (show c<2 ^ 8 by omega) a
 grind [rj,Nat.shiftLeft_eq]
theorem KZ (b:List Int) (hb:BY b) (i:Nat) (hi:i<ln b):(b.map yA)[i]? =some (yA (b.getD i 0))/\0<=b.getD i 0/\b.getD i 0<256:=by grind [BY,yA,qd,List.getElem?_eq_getElem,List.getElem_mem]
section
variable (b:List Int) (hb:BY b) (hl:ln b<=1000000)
include hb hl
end
