/- Part 23. -/
import Derived.Test.YtdjfiebpnmieoaaGreatC22
namespace Go.Proofs.YtdjfiebpnmieoaaGreat.Av
open Tryz
set_option linter.all false
set_option maxRecDepth 4000
set_option maxHeartbeats 4000000
open List renaming length->ln,replicate->nm,range->ny,take->oj,drop->pi
open Inhabited renaming default->dd
structure Cy where
 c:Cf
 rf:Bool
 f4:Int
 ds:List xP
 sg:List Sg
 sv:List Sv
 st:List Int
 vw:List Vw
instance:Inhabited xP:=⟨⟨⟨0,⟨[],0,0,[],0,0,0,0⟩,[],[],⟨0,0,0⟩⟩,[],[],[]⟩⟩
instance:Inhabited Sg:=⟨⟨⟨[],0,[],0⟩,false⟩⟩
instance:Inhabited Sv:=⟨⟨-1,0,[]⟩⟩
def bD (c:Cf) (u:Bool) (f4:Int) (a b s t v:AV):AV:= .agg [zD wD c.js,zD vX c.ags,iA c.per,iA c.cap,iA c.hold,iA c.lock,bA u,iA f4,a,b,s,t,v]
def uB (y:Cy):AV:=bD y.c y.rf y.f4 (zD zK y.ds) (zD wC y.sg) (zD xY y.sv) (zD iA y.st) (zD wZ y.vw)
def aU {y:Cy} (h:y.rf=false):uB y= .agg [zD wD y.c.js,zD vX y.c.ags,iA y.c.per,iA y.c.cap,iA y.c.hold,iA y.c.lock,bA false,iA y.f4,zD zK y.ds,zD wC y.sg,zD xY y.sv,zD iA y.st,zD wZ y.vw]:=by rw[<-h];rfl
def IO (y:Cy):AV:=bD y.c y.rf y.f4 (.ref 1011 0 (y.ds.map zK).length) (.ref 1012 0 (y.sg.map wC).length) (.ref 1013 0 (y.sv.map xY).length) (.ref 1014 0 (y.st.map iA).length) (zD wZ y.vw)
def IP (y:Cy):List (Nat×wB):=[(1011,.arr 17 (y.ds.map zK) false),(1012,.arr 5 (y.sg.map wC) false),(1013,.arr 3 (y.sv.map xY) false),(1014,.arr 1 (y.st.map iA) false)]
structure v5 (y:Cy):Prop where
 d:y.ds.length<=1000
 db:∀d∈y.ds,cN d
 g:y.sg.length<=1000
 gb:∀s∈y.sg,s.c.li.length<=1000/\s.c.nx.length<=1000
 s:y.sv.length<=1000
 sb:∀s∈y.sv,s.en.length<=1000
 t:y.st.length<=1000
 v:y.vw.length<=1000
 vb:∀v∈y.vw,v.co.length<=1000/\v.cn.length<=1000
def XI (l:List xP) (hl:ln l<=1073741824):zO 97 [zD zK l] [] (.ref 1011 0 (l.map zK).length) [(1011,.arr 17 (l.map zK) false)]:=by
 have u:=zA zK l;refine eM call97 λF hF=>?_
 refine xI 0 Z (λcap hx=>?_) ?_
 .have:l=[]:=by simpa using hx
  subst this
  (repeat' (first|refine Md ?_|apply yZ|apply xM|intro hc|fail))
  refine qK 2 1011 17 Z Z Z (xG ?_);exact zP [1011] Z Z Z Z
 .repeat' (first|(apply zG;first|refine wX tok Z Z ?_|(apply xZ;refine yE (yU tok (.inl ⟨rfl,rfl⟩) Z Z Z Z) Z ?_)|(apply yR;refine qB (nw:=[1011]) (yT tok 1011 (xs:=[]) Z Z Z Z Z Z Z Z Z) Z Z Z ?_)|(apply yG;refine xW tok Z Z Z Z Z Z Z (zZ _ _ (λ_=>rfl)) Z Z Z zB Z ?_)|apply uT)|(first|apply xK|apply xF|refine vQ Z ?_|refine yM Z ?_|refine yB Z ?_|refine xU Z (λhc=>?_) λhc=>?_|apply xB|apply xG|apply xJ|apply xE))
  exact zP [1011] Z Z Z Z
def XJ (l:List Sg) (hl:ln l<=1073741824):zO 99 [zD wC l] [] (.ref 1012 0 (l.map wC).length) [(1012,.arr 5 (l.map wC) false)]:=by
 have u:=zA wC l;refine eM call99 λF hF=>?_
 refine xI 0 Z (λcap hx=>?_) ?_
 .have:l=[]:=by simpa using hx
  subst this
  (repeat' (first|refine Md ?_|apply yZ|apply xM|intro hc|fail))
  refine qK 2 1012 5 Z Z Z (xG ?_);exact zP [1012] Z Z Z Z
 .repeat' (first|(apply zG;first|refine wX tok Z Z ?_|(apply xZ;refine yE (yU tok (.inl ⟨rfl,rfl⟩) Z Z Z Z) Z ?_)|(apply yR;refine qB (nw:=[1012]) (yT tok 1012 (xs:=[]) Z Z Z Z Z Z Z Z Z) Z Z Z ?_)|(apply yG;refine xW tok Z Z Z Z Z Z Z (zZ _ _ (λ_=>rfl)) Z Z Z zB Z ?_)|apply uT)|(first|apply xK|apply xF|refine vQ Z ?_|refine yM Z ?_|refine yB Z ?_|refine xU Z (λhc=>?_) λhc=>?_|apply xB|apply xG|apply xJ|apply xE))
  exact zP [1012] Z Z Z Z
def XK (l:List Sv) (hl:ln l<=1073741824):zO 101 [zD xY l] [] (.ref 1013 0 (l.map xY).length) [(1013,.arr 3 (l.map xY) false)]:=by
 have u:=zA xY l;refine eM call101 λF hF=>?_
 refine xI 0 Z (λcap hx=>?_) ?_
 .have:l=[]:=by simpa using hx
  subst this
  (repeat' (first|refine Md ?_|apply yZ|apply xM|intro hc|fail))
  refine qK 2 1013 3 Z Z Z (xG ?_);exact zP [1013] Z Z Z Z
 .repeat' (first|(apply zG;first|refine wX tok Z Z ?_|(apply xZ;refine yE (yU tok (.inl ⟨rfl,rfl⟩) Z Z Z Z) Z ?_)|(apply yR;refine qB (nw:=[1013]) (yT tok 1013 (xs:=[]) Z Z Z Z Z Z Z Z Z) Z Z Z ?_)|(apply yG;refine xW tok Z Z Z Z Z Z Z (zZ _ _ (λ_=>rfl)) Z Z Z zB Z ?_)|apply uT)|(first|apply xK|apply xF|refine vQ Z ?_|refine yM Z ?_|refine yB Z ?_|refine xU Z (λhc=>?_) λhc=>?_|apply xB|apply xG|apply xJ|apply xE))
  exact zP [1013] Z Z Z Z
def XL (l:List Int) (hl:ln l<=1073741824):zO 103 [zD iA l] [] (.ref 1014 0 (l.map iA).length) [(1014,.arr 1 (l.map iA) false)]:=by
 have u:=zA iA l;refine eM call103 λF hF=>?_
 refine xI 0 Z (λcap hx=>?_) ?_
 .have:l=[]:=by simpa using hx
  subst this
  (repeat' (first|refine Md ?_|apply yZ|apply xM|intro hc|fail))
  refine qK 2 1014 1 Z Z Z (xG ?_);exact zP [1014] Z Z Z Z
 .repeat' (first|(apply zG;first|refine wX tok Z Z ?_|(apply xZ;refine yE (yU tok (.inl ⟨rfl,rfl⟩) Z Z Z Z) Z ?_)|(apply yR;refine qB (nw:=[1014]) (yT tok 1014 (xs:=[]) Z Z Z Z Z Z Z Z Z) Z Z Z ?_)|(apply yG;refine xW tok Z Z Z Z Z Z Z (zZ _ _ (λ_=>rfl)) Z Z Z zB Z ?_)|apply uT)|(first|apply xK|apply xF|refine vQ Z ?_|refine yM Z ?_|refine yB Z ?_|refine xU Z (λhc=>?_) λhc=>?_|apply xB|apply xG|apply xJ|apply xE))
  exact zP [1014] Z Z Z Z
theorem XM (y:Cy) (h:v5 y):zO 47 [uB y] [] (uB y) []:=by
 have G:=XI y.ds (by have:=h.d;omega);have I:=XJ y.sg (by have:=h.g;omega);have L:=XK y.sv (by have:=h.s;omega);have M:=XL y.st (by have:=h.t;omega);have O:=PO y.vw h.v h.vb;have A:=zA zK y.ds;have B:=zA wC y.sg;have C:=zA xY y.sv;have E:=zA iA y.st;have hd:=h.d;have R:=h.g;have hs:=h.s;unfold uB bD;refine eM call47 λF hF=>?_
 refine zQ G ?_;refine zN ((y.ds.map zK).length) [1011,1,2] [1,2] [1,2,12] [13,1,2,12] Z (λi T U=>⟨(13,iA i)::T,(1011,.arr 17 (gO i (y.ds.map zK)) false)::U⟩) (Lq ?_ ?_)
 .intro i hi;have hi':i<ln y.ds:=by omega
  have z:(gO i (y.ds.map zK))[i]? =some (zK (y.ds.getD i dd)):=zJ zK y.ds i hi';have e:=jW zK y.ds i hi';have u:=ZN (y.ds.getD i dd) (h.db _ XD);generalize (y.ds.getD i dd)=t,gO i (y.ds.map zK)=xs,gO (i+1) (y.ds.map zK)=ys at *;subst e;refine zQ u ?_;rfl
 ·(refine zQ I ?_)
  refine zN ((y.sg.map wC).length) [1012,1,2,1011] [1,2,1011] [1,2,33] [34,1,2,33] Z (λi T U=>⟨(34,iA i)::T,(1012,.arr 5 (gO i (y.sg.map wC)) false)::U⟩) (Lq ?_ ?_)
  .intro i hi;have hi':i<ln y.sg:=by omega
   have z:(gO i (y.sg.map wC))[i]? =some (wC (y.sg.getD i dd)):=zJ wC y.sg i hi';have e:=jW wC y.sg i hi';have u:=Wf (y.sg.getD i dd) (by have:=h.gb (y.sg.getD i dd) XD;omega) (by have:=h.gb (y.sg.getD i dd) XD;omega);generalize (y.sg.getD i dd)=t,gO i (y.sg.map wC)=xs,gO (i+1) (y.sg.map wC)=ys at *;subst e;refine zQ u ?_;rfl
  ·(refine zQ L ?_)
   refine zN ((y.sv.map xY).length) [1013,1,2,1011,1012] [1,2,1011,1012] [1,2,54] [55,1,2,54] Z (λi T U=>⟨(55,iA i)::T,(1013,.arr 3 (gO i (y.sv.map xY)) false)::U⟩) (Lq ?_ ?_)
   .intro i hi;have hi':i<ln y.sv:=by omega
    have z:(gO i (y.sv.map xY))[i]? =some (xY (y.sv.getD i dd)):=zJ xY y.sv i hi';have e:=jW xY y.sv i hi';have u:=RN (y.sv.getD i dd) ⟨by have:=h.sb (y.sv.getD i dd) XD;omega⟩;generalize (y.sv.getD i dd)=t,gO i (y.sv.map xY)=xs,gO (i+1) (y.sv.map xY)=ys at *;subst e;refine zQ u ?_;rfl
   ·(refine yJ (xV M O) ?_)
    refine zH [] Z Z ?_ Z
    show AV.agg [zD wD y.c.js,zD vX y.c.ags,iA y.c.per,iA y.c.cap,iA y.c.hold,iA y.c.lock,bA y.rf,iA y.f4,.sl false ((y.ds.map zK).take (y.ds.map zK).length),.sl false ((y.sg.map wC).take (y.sg.map wC).length),.sl false ((y.sv.map xY).take (y.sv.map xY).length),.sl false ((y.st.map iA).take (y.st.map iA).length),zD wZ y.vw]=_
    rw[zAb,zAb,zAb,zAb];rfl
def LP (y:Cy) (h:v5 y):zO 47 [uB y] [] (IO y) (IP y):=by
 have G:=XI y.ds (by have:=h.d;omega);have I:=XJ y.sg (by have:=h.g;omega);have L:=XK y.sv (by have:=h.s;omega);have M:=XL y.st (by have:=h.t;omega);have O:=PO y.vw h.v h.vb;have A:=zA zK y.ds;have B:=zA wC y.sg;have C:=zA xY y.sv;have E:=zA iA y.st;have hd:=h.d;have R:=h.g;have hs:=h.s;unfold uB IO bD IP;refine eM call47 λF hF=>?_
 refine zQ G ?_;refine zN ((y.ds.map zK).length) [1011,1,2] [1,2] [1,2,12] [13,1,2,12] Z (λi T U=>⟨(13,iA i)::T,(1011,.arr 17 (gO i (y.ds.map zK)) false)::U⟩) (Lq ?_ ?_)
 .intro i hi;have hi':i<ln y.ds:=by omega
  have z:(gO i (y.ds.map zK))[i]? =some (zK (y.ds.getD i dd)):=zJ zK y.ds i hi';have e:=jW zK y.ds i hi';have u:=ZN (y.ds.getD i dd) (h.db _ XD);generalize (y.ds.getD i dd)=t,gO i (y.ds.map zK)=xs,gO (i+1) (y.ds.map zK)=ys at *;subst e;refine zQ u ?_;rfl
 ·(refine zQ I ?_)
  refine zN ((y.sg.map wC).length) [1012,1,2,1011] [1,2,1011] [1,2,33] [34,1,2,33] Z (λi T U=>⟨(34,iA i)::T,(1012,.arr 5 (gO i (y.sg.map wC)) false)::U⟩) (Lq ?_ ?_)
  .intro i hi;have hi':i<ln y.sg:=by omega
   have z:(gO i (y.sg.map wC))[i]? =some (wC (y.sg.getD i dd)):=zJ wC y.sg i hi';have e:=jW wC y.sg i hi';have u:=Wf (y.sg.getD i dd) (by have:=h.gb (y.sg.getD i dd) XD;omega) (by have:=h.gb (y.sg.getD i dd) XD;omega);generalize (y.sg.getD i dd)=t,gO i (y.sg.map wC)=xs,gO (i+1) (y.sg.map wC)=ys at *;subst e;refine zQ u ?_;rfl
  ·(refine zQ L ?_)
   refine zN ((y.sv.map xY).length) [1013,1,2,1011,1012] [1,2,1011,1012] [1,2,54] [55,1,2,54] Z (λi T U=>⟨(55,iA i)::T,(1013,.arr 3 (gO i (y.sv.map xY)) false)::U⟩) (Lq ?_ ?_)
   .intro i hi;have hi':i<ln y.sv:=by omega
    have z:(gO i (y.sv.map xY))[i]? =some (xY (y.sv.getD i dd)):=zJ xY y.sv i hi';have e:=jW xY y.sv i hi';have u:=RN (y.sv.getD i dd) ⟨by have:=h.sb (y.sv.getD i dd) XD;omega⟩;generalize (y.sv.getD i dd)=t,gO i (y.sv.map xY)=xs,gO (i+1) (y.sv.map xY)=ys at *;subst e;refine zQ u ?_;rfl
   ·(refine yJ (xV M O) ?_)
    exact zP [1011,1012,1013,1014] Z Z Z Z
def dt (j:Jn) (h:ln j.ph<=8):zO 32 [wD j] [] (.agg [bA true,bA false,.ref 1021 0 (j.ph.map xQ).length,.ref 1022 0 (j.ph.map xQ).length]) [(1021,.arr 1 (List.replicate (j.ph.map xQ).length (iA 0)) false),(1022,.arr 1 (List.replicate (j.ph.map xQ).length (iA 0)) false)]:=by
 have hl:=zA xQ j.ph;unfold wD zD;generalize j.ph.map xQ=P at *;refine eM call32 λF hF=>?_
 (repeat' (first|refine uD ?_|apply yZ|apply xM|intro hc|(apply zG;first|(apply eJ;first|refine cJ 1021 tok Z Z Z Z Z Z Z Z Z Z Z Z Z zB zB Z Z Z ?_|refine cJ 1022 tok Z Z Z Z Z Z Z Z Z Z Z Z Z zB zB Z Z Z ?_))|fail))
 exact zP [1021,1022] Z Z Z Z
def Ur (p:Ph) (l:Li):Int:=if l.lamp=1 then max (Lf p-1-l.tk) 0 else if l.lamp=2 then p.yel-1-l.tk else if l.lamp=3 then p.red-1-l.tk else 0
def ux (l:Li):Int:=if l.lamp=1\/l.lamp=2 then l.lamp else 0
def al (p:Ph) (h:Tx p) (l:Li) (B: -1000000000000<=l.tk/\l.tk<=1000000000000) (z: -1000<=Lf p/\Lf p<=1000) (C: -1000<=p.yel/\p.yel<=1000) (A: -1000<=p.red/\p.red<=1000):zO 74 [xQ p,xH l] [] (iA (Ur p l)) []:=by
 have c:=Kf p h;unfold Ur;generalize Lf p=n at *;by_cases h1:l.lamp=1
 .rw[Os h1];refine eM call74 λF hF=>?_
  exact lk c
 rw[Of h1];by_cases h2:l.lamp=2
 .rw[Os h2];refine eM call74 λF hF=>?_
  exact lc
 rw[Of h2];by_cases u:l.lamp=3
 .rw[Os u];refine eM call74 λF hF=>?_
  exact lc
 .rw[Of u];refine eM call74 λF hF=>?_
  exact lc
def HR (s:Sg) (n i:Nat):List Int:=XA (λp _=>ux (xT s.c p)) (nm n 0) i
def CJ (j:Jn) (s:Sg) (n i:Nat):List Int:=XA (λp _=>Ur (yH j p) (xT s.c p)) (nm n 0) i
def RA (j:Jn) (s:Sg) (v:Sv):Vw:=if s.lat=true then I3 (ln j.ph) else⟨false,v.ph != -1,HR s (ln j.ph) (ln j.ph),CJ j s (ln j.ph) (ln j.ph)⟩
def r8 (n:Nat):nm n (iA 0)=(nm n (0:Int)).map iA:=by simp
theorem ol (j:Jn) (J:JV j) (s:Sg) (C:CV j s.c) (v:Sv):zO 36 [wD j,wC s,xY v] [] (wZ (RA j s v)) []:=by
 have k:=dt j J.n.2;have hl:=zA xQ j.ph;have hn:=J.n;have W:(s.c.li.map xH).length=ln j.ph:=by rw[zAa];exact C.n
 unfold RA;rw[r8]at k;unfold wC xY
 cases O:s.lat with
 |true=>
  rw[Os Z];unfold wD at *;refine eM call36 λF hF=>?_
  refine zQ k ?_;refine zH [] Z Z ?_ Z
  show AV.agg [bA true,bA false,.sl false (oj (j.ph.map xQ).length ((nm (j.ph.map xQ).length (0:Int)).map iA)),.sl false (oj (j.ph.map xQ).length ((nm (j.ph.map xQ).length (0:Int)).map iA))]=_
  rw[zAj zW,hl];rfl
 | false=>
  rw[Of zAp];have e1:(nm (j.ph.map xQ).length (0:Int)).map iA=(HR s (ln j.ph) 0).map iA:=by unfold HR;rw[qP,hl]
  have I:(nm (j.ph.map xQ).length (0:Int)).map iA=(CJ j s (ln j.ph) 0).map iA:=by unfold CJ;rw[qP,hl]
  have k:zO 32 [wD j] [] (.agg [bA true,bA false,.ref 1021 0 (j.ph.map xQ).length,.ref 1022 0 (j.ph.map xQ).length]) [(1021,.arr 1 ((HR s (ln j.ph) 0).map iA) false),(1022,.arr 1 ((CJ j s (ln j.ph) 0).map iA) false)]:=by rw[<-e1,<-I];exact k
  clear e1 I;have u:∀i,((HR s (ln j.ph) i).map iA).length=ln j.ph:=λi=>by rw[zAa];unfold HR;rw[wR,zB6]
  have z:∀i,((CJ j s (ln j.ph) i).map iA).length=ln j.ph:=λi=>by rw[zAa];unfold CJ;rw[wR,zB6]
  have L:∀i,i<ln j.ph->(HR s (ln j.ph) (i+1)).map iA=((HR s (ln j.ph) i).map iA).set i (iA (ux (xT s.c i))):=λi hi=>by unfold HR;rw[vI _ _ _ _ (by rw[zB6];exact hi)]
  have M:∀i,i<ln j.ph->(CJ j s (ln j.ph) (i+1)).map iA=((CJ j s (ln j.ph) i).map iA).set i (iA (Ur (yH j i) (xT s.c i))):=λi hi=>by unfold CJ;rw[vI _ _ _ _ (by rw[zB6];exact hi)]
  unfold wD zD at *;refine eM call36 λF hF=>?_
  refine zQ k ?_;refine zN ((j.ph.map xQ).length) [1021,1022,4,6,7] [4,6,7] [4,6,7,22,23] [24,4,6,7,22,23] Z (λi T U=>⟨(24,iA i)::T,(1021,.arr 1 ((HR s (ln j.ph) i).map iA) false)::(1022,.arr 1 ((CJ j s (ln j.ph) i).map iA) false)::U⟩) (Lq ?_ ?_)
  .intro i hi;have hi':i<ln j.ph:=by omega
   have hy:(j.ph.map xQ)[i]? =some (xQ (yH j i)):=zJ xQ j.ph i hi';have hz:(s.c.li.map xH)[i]? =some (xH (xT s.c i)):=zJ xH s.c.li i (by have:=C.n;omega);have ht:=J.ti i hi';have hv:=C.k i hi';have Y:=u i;have x2:=z i;have S:=L i hi';have V:=M i hi'
   have E: -1000000000000<=(xT s.c i).tk/\(xT s.c i).tk<=1000000000000:=by
    unfold vc at hv
    repeat' split at hv
    all_goals (first|(rw[zAe]at hv;omega)|cases hv)
   have G:=al (yH j i) ⟨zB,zB,zB,zB⟩ (xT s.c i) E (by unfold Lf;omega) zB zB;rw[S,V];have a1:((HR s (ln j.ph) i).map iA)[i]? =some (iA ((HR s (ln j.ph) i).getD i dd)):=zJ iA _ i (by rw[zAa]at Y;omega);have a2:(((HR s (ln j.ph) i).map iA).set i (iA 0))[i]? =some (iA 0):=by rw[zDk,Os Z,Os zB]
   have a3:((CJ j s (ln j.ph) i).map iA)[i]? =some (iA ((CJ j s (ln j.ph) i).getD i dd)):=zJ iA _ i (by rw[zAa]at x2;omega);clear S V L M u z k;generalize (HR s (ln j.ph) i).getD i dd=v1,(CJ j s (ln j.ph) i).getD i dd=v2,Ur (yH j i) (xT s.c i)=cc,(HR s (ln j.ph) i).map iA=A,(CJ j s (ln j.ph) i).map iA=B at *;generalize yH j i=p at *;unfold ux;generalize xT s.c i=l at *;obtain⟨R,tk⟩:=l;dsimp only at *;by_cases h1:R=1
   .rw[Os (.inl h1),<-zEr (a:=iA 0)];refine zQ G ?_;rfl
   by_cases h2:R=2
   .rw[Os (.inr h2),<-zEr (a:=iA 0)];refine zQ G ?_;rfl
   .rw[Of (λh=>h.elim h1 h2)];refine zQ G ?_;rfl
  ·(refine WW ?_)
   refine zH [] Z Z ?_ Z
   show AV.agg [bA false,bA (v.ph != -1),.sl false (oj (j.ph.map xQ).length ((HR s (ln j.ph) (j.ph.map xQ).length).map iA)),.sl false (oj (j.ph.map xQ).length ((CJ j s (ln j.ph) (j.ph.map xQ).length).map iA))]=_
   rw[zAj (by rw[u];omega),zAj (by rw[z];omega),hl];rfl
def qx (j:Jn) (J:JV j) (s:Sg) (v:Sv):Qb (RA j s v):=by
 have u:=J.n.2;unfold RA;split
 .exact A6 u
 .refine⟨by show(HR _ _ _).length<=8;unfold HR;rw[wR,zB6];exact u,by show(CJ _ _ _ _).length<=8;unfold CJ;rw[wR,zB6];exact u,λx hx=>?_⟩;obtain⟨i,hi,rfl⟩:=zCw hx;have h1:=vZ (λp (_:Int)=>ux (xT s.c p)) (nm (ln j.ph) 0) (ln j.ph) i
  grind [RA,HR,List.getElem?_eq_getElem,wR,ux,List.length_replicate]
def NE (k:IntKind) (n:Int):Int:=k.wrap (BitVec.ofInt k.bits (if k.signed=true then -1 else k.max) ^^^ BitVec.ofInt k.bits n).toNat
def MB {P:Program} {st:St} {tx:Nat} {x:Operand} {k:IntKind} {n:Int} (hx:yY (zM st.tm) x= .s (.int k n)):vC P st (.unOp .xor tx x) (.s (.int k (NE k n))) [] [] []:=
 xA λo X G h w β a u A _ _ z=>by
  obtain⟨d0,o0,I,E,B,C⟩:=o;dsimp only at u;subst u;have h1:=vY z A (x:=x) qF hx;exact⟨.int k (NE k n),by simp[execOp,h1,Op.unary,Op.intBits,NE],.fz _ _ (.s _)⟩
def uA (n:Int):AV:= .s (.int .u32 n)
def IQ (a b:Int):Int:=IntKind.u32.wrap (BitVec.ofInt IntKind.u32.bits a ^^^ BitVec.ofInt IntKind.u32.bits b).toNat
def ct (a b:Int):Int:=IntKind.u32.wrap (BitVec.ofInt IntKind.u32.bits a &&& BitVec.ofInt IntKind.u32.bits b).toNat
def nl (a b:Int):Int:=IntKind.u32.wrap (BitVec.ofInt IntKind.u32.bits a ||| BitVec.ofInt IntKind.u32.bits b).toNat
def B5 (a:Int) (n:Nat):Int:=a.fdiv (2 ^ (min n IntKind.u32.bits))
def A5 (r:Int):Int:=if ct r 1=1 then IQ (B5 r 1) 3988292384 else B5 r 1
def Sr (r:Int):Nat->Int
 |0=>r
 |i+1=>A5 (Sr r i)
def V9 (r x:Int):Int:=Sr (IQ r x) 8
def Rr (r:Int) (l:List Int):Int:=l.foldl V9 r
def bE (l:List Int):Int:=NE .u32 (Rr (NE .u32 0) l)
def BQ (r:Int) (l:List Int) (x:Int):Rr r (l++[x])=V9 (Rr r l) x:=by simp[Rr]
section
variable {P:Program} {tm:List (Nat×AV)} {h:List (Nat×wB)} {tx ty:Nat} {x y:Operand} {m n:Int}
def RL (hx:yY (zM tm) x= .s (.int .u32 m)) (u:yY (zM tm) y= .s (.int .u32 n)):vC P ⟨tm,h⟩ (.binOp .and tx x y ty) (.s (.int .u32 (ct m n))) [] [] []:=MR hx u
def RM (hx:yY (zM tm) x= .s (.int .u32 m)) (u:yY (zM tm) y= .s (.int .u32 n)):vC P ⟨tm,h⟩ (.binOp .or tx x y ty) (.s (.int .u32 (nl m n))) [] [] []:=EV hx u
end
def nz (r:Int) (l:List Int) (hl:ln l<=1000000) (hb:BY l):zO 341 [uA r,zD yA l] [] (uA (NE .u32 (Rr (NE .u32 r) l))) []:=by
 have C:=zA yA l;refine eM call341 λF hF=>?_
 (repeat' (first|refine uD ?_|apply yZ|apply xM|intro hc|(apply zG;first|(apply XX;refine yE (MB Z) Z ?_))|fail))
 generalize NE .u32 r=A at *;refine zU (l) [] [] [11,12] [5,13,11,12] Z (λi ga T U=>⟨(5,uA (Rr A ga))::(13,iA i)::T,U⟩) (Lq ?_ ?_)
 .intro i ga x post hx hi;have G:=yI yA hx hi;have E:=zV hx hi;have B:=hb x (yV hx);rw[BQ];clear hx;generalize Rr A ga=q at *;refine WW ?_;refine zN (8) [] [] [11,12,13] [5,21,11,12,13] Z (λi T U=>⟨(5,uA (Sr (IQ q x) i))::(21,iA i)::T,U⟩) (Lq ?_ ?_)
  .intro k hk;have e:Sr (IQ q x) (k+1)=A5 (Sr (IQ q x) k):=rfl;rw[e];generalize Sr (IQ q x) k=z at *;unfold A5;by_cases u:ct z 1=1
   .rw[Os u]
    (repeat' (first|refine uD ?_|apply yZ|apply xM|intro hc|(apply zG;first|(apply xZ;refine yE (RL Z Z) Z ?_))|fail))
    rfl
   .rw[Of u]
    (repeat' (first|refine uD ?_|apply yZ|apply xM|intro hc|(apply zG;first|(apply xZ;refine yE (RL Z Z) Z ?_))|fail))
    rfl
  ·(refine WW ?_)
   rfl
 ·(repeat' (first|refine uD ?_|apply yZ|apply xM|intro hc|(apply zG;first|(apply XX;refine yE (MB Z) Z ?_))|fail))
  exact zI
def jx (l:List Int) (hl:ln l<=1000000) (hb:BY l):zO 300 [zD yA l] [] (uA (bE l)) []:=by
 have c:=nz 0 l hl hb;refine eM call300 λF hF=>?_
 exact lk c
def bt (r:Int) (l:List Int) (hl:ln l<=1000000) (hb:BY l):zO 277 [uA r,zD yA l] [] (uA (NE .u32 (Rr (NE .u32 r) l))) []:=by
 have C:=zA yA l;refine eM call277 λF hF=>?_
 (repeat' (first|refine uD ?_|apply yZ|apply xM|intro hc|(apply zG;first|(apply XX;refine yE (MB Z) Z ?_))|fail))
 generalize NE .u32 r=A at *;refine zU (l) [] [] [11,12] [5,13,11,12] Z (λi ga T U=>⟨(5,uA (Rr A ga))::(13,iA i)::T,U⟩) (Lq ?_ ?_)
 .intro i ga x post hx hi;have G:=yI yA hx hi;have E:=zV hx hi;have B:=hb x (yV hx);rw[BQ];clear hx;generalize Rr A ga=q at *;refine WW ?_;refine zN (8) [] [] [11,12,13] [5,21,11,12,13] Z (λi T U=>⟨(5,uA (Sr (IQ q x) i))::(21,iA i)::T,U⟩) (Lq ?_ ?_)
  .intro k hk;have e:Sr (IQ q x) (k+1)=A5 (Sr (IQ q x) k):=rfl;rw[e];generalize Sr (IQ q x) k=z at *;unfold A5;by_cases u:ct z 1=1
   .rw[Os u]
    (repeat' (first|refine uD ?_|apply yZ|apply xM|intro hc|(apply zG;first|(apply xZ;refine yE (RL Z Z) Z ?_))|fail))
    rfl
   .rw[Of u]
    (repeat' (first|refine uD ?_|apply yZ|apply xM|intro hc|(apply zG;first|(apply xZ;refine yE (RL Z Z) Z ?_))|fail))
    rfl
  ·(refine WW ?_)
   rfl
 ·(repeat' (first|refine uD ?_|apply yZ|apply xM|intro hc|(apply zG;first|(apply XX;refine yE (MB Z) Z ?_))|fail))
  exact zI
def Pc (l:List Int) (hl:ln l<=1000000) (hb:BY l):zO 233 [zD yA l] [] (uA (bE l)) []:=by
 have c:=bt 0 l hl hb;refine eM call233 λF hF=>?_
 exact lk c
def ml (l:List Int):0<=bE l/\bE l<4294967296:=by
 unfold bE NE IntKind.wrap;simp[IntKind.signed,IntKind.bits];omega
def mf (n:Int) (u:0<=n) (h1:n<=200):zO 299 [iA n] [] (iA (6+n+4)) []:=by
 refine eM call299 λF hF=>?_
 exact lc
def PK (l:List Int):Int:=l.foldl (λn x=>nl (IntKind.u32.wrap (n*2 ^ (min (8:Int).toNat IntKind.u32.bits))) x) 0
def Zl (l:List Int) (hl:ln l<=1000000) (hb:BY l):zO 378 [zD yA l] [] (uA (PK l)) []:=by
 have z:=zA yA l;refine eM call378 λF hF=>?_
 refine WW ?_;refine zU (l) [] [] [6,7] [3,8,6,7] Z (λi ga T U=>⟨(3,uA (PK ga))::(8,iA i)::T,U⟩) (Lq ?_ ?_)
 .intro i ga x post hx hi;have B:=yI yA hx hi;have A:=zV hx hi;have u:=hb x (yV hx);rw[show PK (ga++[x])=nl (IntKind.u32.wrap (PK ga*2 ^ (min (8:Int).toNat IntKind.u32.bits))) x by simp[PK]];clear hx;generalize PK ga=q at*
  (repeat' (first|refine uD ?_|apply yZ|apply xM|intro hc|(apply zG;first|(apply xZ;refine yE (RM Z Z) Z ?_))|fail))
  rfl
 .exact lc
def BR (s:Int):List Int:=(ny 4).map λi:Nat=>IntKind.u8.wrap (s.fdiv (2 ^ (min (8*(3-(i:Int))).toNat IntKind.u32.bits)))
def ZT (k:Int) (n:Nat):List Int:=[1,k,0,(n:Int)]
def yc (k:Int) (p:List Int):List Int:=90::165::(ZT k (ln p)++p)++BR (bE (ZT k (ln p)++p))
theorem s8 (n:Nat) (z a b c d e f:AV) (ys:List AV) (u:ln ys=n):((((((nm (n+10) z).set 0 a).set 1 b).set 2 c).set 3 d).set 4 e).set 5 f=a::b::c::d::e::f::nm (n+4) z:=by
 rw[show n+10=n+4+1+1+1+1+1+1 by omega];simp[zD3]
def Yl (A B:List Int) (z:Int) (i:Nat) (hi:i<ln B):(A++B.take i++nm (ln B-i) z).set (ln A+i) (B.getD i dd)=A++B.take (i+1)++nm (ln B-(i+1)) z:=by
 have h1:(A++B.take i).length=ln A+i:=by rw[zAh,zAw];omega
 rw[show (ln B)-i=ln B-(i+1)+1 by omega,zD3,zDe _ _ zB,h1,zCl,zEb,zAl,zA4 hi,zCk hi]
 grind
def ot (s:Int):(BR s).length=4:=rfl
section
variable {P:Program} {TT:List TI} {K0:List Nat} {F:Fr K0} {m:Nat} {ops:Array Oper} {rest:List Oper} {Q:List FP->St->Prop} {tm:List (Nat×AV)} {h:List (Nat×wB)} {dr:Bool} {fs:List FP} {ty:Nat} {pos:String} {after:Array Edge} {t:Nat}
def Xl (I:qS P TT) {T e u len sz:Nat} {x l r:Operand} {E C:TI} {xs:List AV} {S:Fl} {A B:IntKind} {i j:Int} (hx:yY (zM tm) x= .ref u 0 len) (hk:zE h u=some (.arr sz xs S)) (hl:yY (zM tm) l= .s (.int A i)) (R:yY (zM tm) r= .s (.int B j)) (hT:TT[T]? =some E) (hd:E.d= .slice e) (L:TT[e]? =some C)
  (z:Nat.beq sz C.size=true) (a b:Nat) (U:i=a) (hb:j=b) (G:a<=b) (h1:b<=len) (M:Nat.blt t m=true) (O:yQ P F m ops dr rest ⟨(t,.ref u a (b-a))::tm,h⟩ (⟨true,[],[u]⟩::fs) Q):
  yQ P F m ops dr (⟨some t,.slice T x (some l) (some r) none,ty,pos,after,none⟩::rest) ⟨tm,h⟩ fs Q:=by
 have:=aQ (P:=P) (st:=⟨tm,h⟩) (lo:=some l) (hi:=some r) (l:=a) (r:=b) I hx hk hT hd L ⟨A,i,hl,zB⟩ ⟨B,j,R,zB⟩ G h1 z;rw[zBx]at this;exact yE this M O
end
def v6 (k:Int) (p:List Int):List AV:=((((((nm (ln p+10) (yA 0)).set 0 (yA 90)).set 1 (yA 165)).set 2 (yA 1)).set 3 (yA k)).set 4 (.s (.int .u8 (IntKind.u8.wrap (vO (((p.map yA).length:Nat):Int) 8))))).set 5 (.s (.int .u8 (((p.map yA).length:Nat):Int)))
def mz (k:Int) (p:List Int):List AV:=(v6 k p).take 6++p.map yA++(v6 k p).drop (6+(p.map yA).length)
def HS (k:Int) (p:List Int) (i:Nat):List Int:=(90::165::(ZT k (ln p)++p))++(BR (bE (ZT k (ln p)++p))).take i++nm (4-i) 0
def lz (k:Int) (p:List Int) (u:ln p<=200):mz k p=(HS k p 0).map yA:=by
 have h1:IntKind.u8.wrap (vO (((p.map yA).length:Nat):Int) 8)=0:=by
  have:vO (((p.map yA).length:Nat):Int) 8=0:=by
   grind [mz,HS,yA,vO,List.length_map,Int.fdiv_eq_ediv_of_nonneg]
  rw[this];rfl
 have h2:v6 k p=yA 90::yA 165::yA 1::yA k::yA 0::yA (ln p)::nm (ln p+4) (yA 0):=by
  grind [mz,HS,yA,v6,List.length_map,s8]
 unfold mz HS ZT;rw[h2,zAa];simp only[zE7,zDi,zC0,zCv,zBk,zAf,zA2,zDr,zE4,zA0];rw[show 6+ln p=ln p+1+1+1+1+1+1 by omega]
 simp_all [mz,HS,yA]
def gx {k:Int} {p:List Int} (z:0<=k) (A:k<=255) (hb:BY p) (u:ln p<=200):BY (ZT k (ln p)++p):=by grind [BY,ZT]
theorem rz (k:Int) (p:List Int) (S:0<=k) (V:k<=255) (hb:BY p) (M:ln p<=200):zO 250 [iA k,zD yA p] [] (.tup [zD yA (yc k p),iA 0]) []:=by
 have G:=zA yA p;have O:=mf ((p.map yA).length) zB zB;have hh:∀y,(p.map yA)[0]? =some y->ln y.cells=1:=zZ _ _ (λ_=>rfl);have I:6+((p.map yA).length:Int)+4=((ln p+10:Nat):Int):=by omega
 rw[I]at O;have C:=lz k p M;have E:=gx S V hb M
 have L:zO 300 [.sl false (((mz k p).drop 2).take (6+ln p-2))] [] (uA (bE (ZT k (ln p)++p))) []:=by
  rw[C,<-zC4,<-zDg]
  have e:((HS k p 0).drop 2).take (6+ln p-2)=ZT k (ln p)++p:=by
   unfold HS;rw[zDi,zA2,zC0,zC0,List.drop_succ_cons,List.drop_succ_cons,zAu];exact List.take_left' (by unfold ZT;simp;omega)
  rw[e];exact jx _ (by unfold ZT;simp;omega) E
 unfold mz v6 at L C;unfold yc;have u:=ot (bE (ZT k (ln p)++p))
 have A:∀i,i<4->(HS k p (i+1)).map yA=((HS k p i).map yA).set (ln p+6+i) (yA ((BR (bE (ZT k (ln p)++p))).getD i dd)):=λi hi=>by
  have h1:=Yl (90::165::(ZT k (ln p)++p)) (BR (bE (ZT k (ln p)++p))) 0 i (by rw[u];exact hi);rw[u,show(90::165::(ZT k (ln p)++p)).length+i=ln p+6+i by simp[ZT]<;>omega]at h1;unfold HS;rw[<-h1,zBs]
 refine eM call250 λF hF=>?_
 (have gd:=O;have gn:=L;(repeat' (first|refine uD ?_|apply yZ|apply xM|intro hc|(apply zG;first|refine SM ?_|(apply jN;first|refine YP tok Z Z Z Z Z Z Z zB zB Z ?_|refine Xl tok Z Z Z Z Z Z Z Z 2 (6+ln p) Z zB zB zB Z ?_)|(refine qB (JQ tok Z Z Z Z Z Z Z hh Z (by show _<=ln p+4;omega)) Z Z Z ?_))|fail))<;>clear gd gn)
 refine zN (4) [23] [] [6,7,8] [52,6,7,8] Z (λi T U=>⟨(52,iA i)::T,(23,.arr 1 ((HS k p i).map yA) false)::U⟩) ?_;(conv=>whnf);refine⟨by(rw[<-C];rfl),?_,?_⟩
 .intro i hi;have e:=A i hi
  have z:(BR (bE (ZT k (ln p)++p))).getD i dd=IntKind.u8.wrap ((bE (ZT k (ln p)++p)).fdiv (2 ^ (min (8*(3-(i:Int))).toNat IntKind.u32.bits))):=by
   unfold BR;rw[zAl,zAi,zBu hi];rfl
  rw[z,show (ln p)+6+i=(6+(ln p:Int)+i).toNat by omega]at e;rw[e];clear A C L e z
  have B:((HS k p i).map yA).length=ln p+10:=by
   unfold HS;simp[ZT,BR];omega
  have R:((HS k p i).map yA)[(6+(ln p:Int)+i).toNat]? =some (yA ((HS k p i).getD (6+(ln p:Int)+i).toNat dd)):=zJ yA _ _ (by rw[zAa]at B;omega);generalize (HS k p i).getD (6+(ln p:Int)+i).toNat dd=W at *;rw[<-G]at R⊢;generalize bE (ZT k (ln p)++p)=s,(HS k p i).map yA=X at *;refine WW ?_;rfl
 ·(refine WW ?_)
  refine zH [] Z Z ?_ Z
  show AV.tup [.sl false (oj (ln p+10) ((HS k p 4).map yA)),iA 0]=_
  have e:HS k p 4=90::165::(ZT k (ln p)++p)++BR (bE (ZT k (ln p)++p)):=by
   unfold HS;rw[zAj (by rw[u];omega),zCl,zE6,zA2]
  rw[e,zAj (by rw[zAa];simp[ZT,BR]<;>omega)];rfl
def iz (y:Int):0<=IntKind.u8.wrap y/\IntKind.u8.wrap y<256:=by
 unfold IntKind.wrap;simp[IntKind.signed,IntKind.bits];omega
def dx (s:Int):List Int:=[IntKind.u8.wrap (s.fdiv (2 ^ (min (24:Int).toNat IntKind.u32.bits))),IntKind.u8.wrap (s.fdiv (2 ^ (min (16:Int).toNat IntKind.u32.bits))),IntKind.u8.wrap (s.fdiv (2 ^ (min (8:Int).toNat IntKind.u32.bits))),IntKind.u8.wrap s]
def nt (k:Int) (p:List Int) (G:0<=k) (I:k<=255) (hb:BY p) (E:ln p<=200):∃q,q=90::165::(ZT k (ln p)++p)++dx (bE (ZT k (ln p)++p))/\BY q/\q.length=ln p+10/\zO 194 [iA k,zD yA p] [] (.tup [.ref 1031 0 (q.map yA).length,iA 0]) [(1031,.arr 1 (q.map yA) true)]:=by
 have C:=zA yA p;have hh:∀y,(p.map yA)[0]? =some y->ln y.cells=1:=zZ _ _ (λ_=>rfl)
 have A:IntKind.u8.wrap (vO (((p.map yA).length:Nat):Int) 8)=0:=by
  have:vO (((p.map yA).length:Nat):Int) 8=0:=by
   unfold vO;rw[zAa,zCh _ yX]
   show(ln p:Int)/256=0
   omega
  rw[this];rfl
 have u:=gx G I hb E;have z:=Pc (ZT k (ln p)++p) (by unfold ZT;simp;omega) u
 have z:zO 233 [.sl false ((([AV.s (.int .u8 90),.s (.int .u8 165),.s (.int .u8 1),.s (.int .u8 k),.s (.int .u8 (IntKind.u8.wrap (vO (((p.map yA).length:Nat):Int) 8))),.s (.int .u8 (((p.map yA).length:Nat):Int))]++p.map yA).drop 2).take (([AV.s (.int .u8 90),.s (.int .u8 165),.s (.int .u8 1),.s (.int .u8 k),.s (.int .u8 (IntKind.u8.wrap (vO (((p.map yA).length:Nat):Int) 8))),.s (.int .u8 (((p.map yA).length:Nat):Int))]++p.map yA).length-2))] [] (uA (bE (ZT k (ln p)++p))) []:=by
  rw[A,zAa];rw[zAj zW];exact z
 generalize bE (ZT k (ln p)++p)=s at *;refine⟨90::165::(ZT k (ln p)++p)++dx s,rfl,?_,?_,?_⟩
 .intro x hx
  rcases zA5.1 hx with hx|hx
  .simp only[zBv]at hx
   rcases hx with rfl|rfl|hx
   .omega
   .omega
   .exact u x hx
  .simp only[dx,zBv,zEw,zFt]at hx
   rcases hx with rfl|rfl|rfl|rfl<;>exact iz _
 .simp[ZT,dx]
 have B:(90::165::(ZT k (ln p)++p)++dx s).map yA=([AV.s (.int .u8 90),.s (.int .u8 165),.s (.int .u8 1),.s (.int .u8 k),.s (.int .u8 (IntKind.u8.wrap (vO (((p.map yA).length:Nat):Int) 8))),.s (.int .u8 (((p.map yA).length:Nat):Int))]++p.map yA)++[.s (.int .u8 (IntKind.u8.wrap (s.fdiv (2 ^ (min (24:Int).toNat IntKind.u32.bits))))),.s (.int .u8 (IntKind.u8.wrap (s.fdiv (2 ^ (min (16:Int).toNat IntKind.u32.bits))))),.s (.int .u8 (IntKind.u8.wrap (s.fdiv (2 ^ (min (8:Int).toNat IntKind.u32.bits))))),.s (.int .u8 (IntKind.u8.wrap s))]:=by
  rw[A,zAa];simp only[ZT,dx,zAf,zBk,zBt,zC0,zCv,zA0];rfl
 rw[B];refine eM call194 λF hF=>?_
 (have gd:=z;(repeat' (first|refine dZ ?_|apply yZ|apply xM|intro hc|(apply zG;first|(apply yR;first|refine qB (nw:=[1031]) (yT tok 1031 (xs:=[_,_,_,_,_,_]) Z Z Z Z Z Z Z Z Z) Z Z Z ?_|refine kD tok Z Z ?_)|(apply jN;refine YP tok Z Z Z Z Z Z Z zB (by simp<;>omega) Z ?_))|refine SB ?_|fail))<;>clear gd)
 exact zP [1031] Z Z Z Z
def jI (l:List Ag):Nat->Int
 |0=>0
 |i+1=>jI l i+(l.getD i dd).ses
def lf (l:List Ag):Prop:=ln l<=4/\∀a∈l,1<=a.ses/\a.ses<=2
theorem lf.at {l:List Ag} (h:lf l) {i:Nat} (hi:i<ln l):1<=(l.getD i dd).ses/\(l.getD i dd).ses<=2:=by grind [lf]
theorem kN {l:List Ag} (h:lf l):∀i,i<=ln l->(i:Int)<=jI l i/\jI l i<=2*i
 |0,_=>⟨zCn _,zCn _⟩
 |i+1,hi=>by
  have h1:=kN h i zB;have h2:=h.at (i:=i) zB;unfold jI;omega
structure px (e:Ev):Prop where
 k:1<=e.k/\e.k<=6
 s:0<=e.s/\e.s<=100
 a:0<=e.a/\e.a<=100
 b:0<=e.b/\e.b<=100
 y:BY e.y
 n:e.y.length<=1000
def bF:BY []:=λx hx=>by cases hx
def ox (l:List Ev) (n:Nat):Prop:=ln l<=n/\∀e∈l,px e
theorem ox.nil:ox [] 0:=⟨zAg _,λe h=>by cases h⟩
theorem ox.app {l:List Ev} {n:Nat} (h:ox l n) {e:Ev} (u:px e):ox (l++[e]) (n+1):=
 ⟨by have:=h.1;rw[zAh,zCi];omega,λx hx=>(zA5.1 hx).elim (h.2 x) λhx=>by rw[zBf.1 hx];exact u⟩
theorem ox.le {l:List Ev} {n m:Nat} (h:ox l n) (u:n<=m):ox l m:=⟨zBi h.1 u,h.2⟩
structure HT (c:Cf):Prop where
 j:1<=c.js.length/\c.js.length<=4
 jv:∀j∈c.js,JV j
 a:1<=c.ags.length/\c.ags.length<=4
 av:∀a∈c.ags,Hv a
 p:1<=c.per/\c.per<=600
 cp:0<=c.cap/\c.cap<=100
 h:1<=c.hold/\c.hold<=60
 l:0<=c.lock/\c.lock<=600
theorem HT.w {c:Cf} (h:HT c):B7 c:=⟨h.j.2,λj hj=>(h.jv j hj).n⟩
theorem HT.ag {c:Cf} (h:HT c):lf c.ags:=⟨h.a.2,λa u=>(h.av a u).e⟩
def rx (d:Dk) (r:Int) (z:0<=r/\r<=63):HT (JU d r):=by
 have C:=n7 d r;have h1:=uK d (4-1+1) zB;have h2:=uK (ad d) 4 zB;have A:=uK (ad (ad d)) (3-1+1) zB;have B:=uK (ad (ad (ad d))) 5 zB;refine⟨zB,λj hj=>?_,zB,λa u=>?_,?_,?_,?_,?_⟩
 .rw[Vq]at hj;obtain⟨e,rfl⟩:=eh _ _ j hj;exact Jz e
 .obtain⟨i,hi,rfl⟩:=zCw u;have:=(C3 d r z (i:Int) zB zB).1.v;rw[show(i:Int).toNat=i from Z]at this;rw[show(JU d r).ags[i]=(JU d r).ags.getD i dd by simp[List.getD,hi]];exact this
 all_goals (unfold JU;dsimp only;omega)
def Jh (c:Cf) (h:HT c):zO 31 [wO c] [] (bA true) []:=by
 have hj:=h.j;have M:=h.a;have A:=zA wD c.js;have z:=zA vX c.ags;have C:=bI ((c.js.map wD).length:Int) 1 4 zB;have w2:=bI ((c.ags.map vX).length:Int) 1 4 zB;have E:=bI c.per 1 600 h.p;have G:=bI c.cap 0 100 h.cp;have I:=bI c.hold 1 60 h.h;have L:=bI c.lock 0 600 h.l;unfold wO zD;refine eM call31 λF hF=>?_
 refine yJ (xV C w2) ?_;refine zN ((c.js.map wD).length) [1] [1] [1,20,21] [22,1,20,21] Z (λi T U=>⟨(22,iA i)::T,U⟩) (Lq ?_ ?_)
 .intro i hi;have B:=zJ wD c.js i zB;have u:=OR _ (h.jv _ (zY c.js i zB));generalize c.js.getD i dd=j at *;refine zQ u ?_;rfl
 ·(refine WW ?_)
  refine zN ((c.ags.map vX).length) [1] [1] [1,31,32] [33,1,31,32] Z (λi T U=>⟨(33,iA i)::T,U⟩) (Lq ?_ ?_)
  .intro i hi;have B:=zJ vX c.ags i zB;have u:=gj _ (h.av _ (zY c.ags i zB));generalize c.ags.getD i dd=a at *;refine zQ u ?_;rfl
  .exact ld (aB E G I L)
def UE (c:Cf) (i:Nat):List xP:=(ny i).map λk:Nat=>QX (k:Int) (c.ags.getD k dd) (c.ags.getD k dd).ses.toNat
def XB (j:Jn):Sv:=BW (ln j.ph)
def eQ (c:Cf):Cy:=⟨c,false,0,UE c (ln c.ags),c.js.map qZ,c.js.map XB,c.js.map λ_=> -1,c.js.map λj=>RA j (qZ j) (XB j)⟩
theorem Zz (c:Cf) (h:HT c):zO 9 [wO c] [] (uB (eQ c)) []:=by
 have E:=Jh c h;have hj:=h.j;have ha:=h.a;have B:=zA wD c.js;have A:=zA vX c.ags;have z:∀i,((UE c i).map zK).length=i:=λi=>by simp[UE]
 have u:uB (eQ c)= .agg [zD wD c.js,zD vX c.ags,iA c.per,iA c.cap,iA c.hold,iA c.lock,bA false,iA 0,zD zK (UE c (ln c.ags)),zD wC (c.js.map qZ),zD xY (c.js.map XB),zD iA (c.js.map λ_=> -1),zD wZ (c.js.map λj=>RA j (qZ j) (XB j))]:=rfl;rw[u];unfold wO zD at *;refine eM call9 λF hF=>?_
 refine zQ E ?_;refine qJ 3 8 1011 17 Z Z Z Z Z ?_;refine zN ((c.ags.map vX).length) [3,1011,1,2] [1,2] [1,2,3,35,36] [37,1,2,3,35,36] Z (λi T U=>⟨(37,iA i)::T,(3,.box [.sl false (c.js.map wD),.sl false (c.ags.map vX),iA c.per,iA c.cap,iA c.hold,iA c.lock,bA false,iA 0,.ref 1011 0 ((UE c i).map zK).length,.s (.slice none 0 0),.s (.slice none 0 0),.s (.slice none 0 0),.s (.slice none 0 0)])::(1011,.arr 17 ((UE c i).map zK) true)::U⟩) (Lq ?_ ?_)
 .intro i hi;have M:=zJ vX c.ags i zB;have S:=(iy (i:Int) _ (h.av _ (zY c.ags i zB))).1;have e:(UE c (i+1)).map zK=(UE c i).map zK++[zK (QX (i:Int) (c.ags.getD i dd) (c.ags.getD i dd).ses.toNat)]:=by unfold UE;rw[zCf,zAf,zAf];rfl
  have z:=z i;rw[e];clear E u e;generalize QX (i:Int) (c.ags.getD i dd) (c.ags.getD i dd).ses.toNat=dk at *;generalize c.ags.getD i dd=a at *;generalize (UE c i).map zK=X at *;unfold zK xC at*
  (have gd:=S;(repeat' (first|refine dZ ?_|apply yZ|apply xM|intro hc|(apply zG;first|(apply yR;refine kD tok Z Z ?_))|refine SB ?_|fail))<;>clear gd)
  rfl
 ·(refine WW ?_)
  refine qJ 3 9 1012 5 Z Z Z Z Z ?_;refine qJ 3 10 1013 3 Z Z Z Z Z ?_;refine qJ 3 11 1014 1 Z Z Z Z Z ?_;refine qJ 3 12 1015 4 Z Z Z Z Z ?_;rw[A];refine zN ((c.js.map wD).length) [3,1012,1013,1014,1015,2,1011] [2,1011] [2,3,52,53] [54,2,3,52,53] Z (λi T U=>⟨(54,iA i)::T,(3,.box [.sl false (c.js.map wD),.sl false (c.ags.map vX),iA c.per,iA c.cap,iA c.hold,iA c.lock,bA false,iA 0,.ref 1011 0 ((UE c (ln c.ags)).map zK).length,.ref 1012 0 (((c.js.take i).map qZ).map wC).length,.ref 1013 0 (((c.js.take i).map XB).map xY).length,.ref 1014 0 ((c.js.take i).map λ_=>iA (-1)).length,.ref 1015 0 (((c.js.take i).map λj=>RA j (qZ j) (XB j)).map wZ).length])::(1012,.arr 5 (((c.js.take i).map qZ).map wC) true)::(1013,.arr 3 (((c.js.take i).map XB).map xY) true)::(1014,.arr 1 ((c.js.take i).map λ_=>iA (-1)) true)::(1015,.arr 4 (((c.js.take i).map λj=>RA j (qZ j) (XB j)).map wZ) true)::U⟩) (Lq ?_ ?_)
  .intro i hi;have hi':i<ln c.js:=by omega
   have M:=zJ wD c.js i hi';have J:=h.jv _ (zY c.js i hi')
   have G:c.js.take (i+1)=c.js.take i++[c.js.getD i dd]:=by
    rw[zAl,zA4 hi',zC1,zCk hi']
   have L:(c.js.take i).length<=4:=by rw[zAw];omega
   have O:=Jl _ J;have I:=Vz (c.js.getD i dd).ph.length GN;have R:=ol _ J (qZ (c.js.getD i dd)) (Rf J) (XB (c.js.getD i dd));have C:((c.js.getD i dd).ph.map xQ).length=(c.js.getD i dd).ph.length:=zAa ..;rw[G];simp only[zAf,zBk,zBt];have m1:(((c.js.take i).map qZ).map wC).length=(c.js.take i).length:=by simp
   have m2:(((c.js.take i).map XB).map xY).length=(c.js.take i).length:=by simp
   have m3:((c.js.take i).map λ_=>iA (-1)).length=(c.js.take i).length:=by simp
   have m4:(((c.js.take i).map λj=>RA j (qZ j) (XB j)).map wZ).length=(c.js.take i).length:=by simp
   rw[show BW (c.js.getD i dd).ph.length=XB (c.js.getD i dd)from Z,<-C]at I;clear G u E;generalize RA (c.js.getD i dd) (qZ (c.js.getD i dd)) (XB (c.js.getD i dd))=w at *;generalize qZ (c.js.getD i dd)=s at *;generalize XB (c.js.getD i dd)=v at *;generalize c.js.getD i dd=j at *;generalize ((c.js.take i).map qZ).map wC=V,((c.js.take i).map XB).map xY=W,(c.js.take i).map (λ_=>iA (-1))=Y,((c.js.take i).map λj=>RA j (qZ j) (XB j)).map wZ=X4 at *;unfold wD zD wC xY wZ at*
   (have gd:=O;have gn:=I;have gt:=R;(repeat' (first|refine dZ ?_|apply yZ|apply xM|intro hc|(apply zG;first|(apply yR;refine kD tok Z Z ?_))|refine SB ?_|fail))<;>clear gd gn gt)
   rfl
  .rw[B,zAb];refine WW ?_;refine zH [] Z Z ?_ Z
   show AV.agg [.sl false (c.js.map wD),.sl false (c.ags.map vX),iA c.per,iA c.cap,iA c.hold,iA c.lock,bA false,iA 0,.sl false (oj ((UE c (ln c.ags)).map zK).length (pi 0 ((UE c (ln c.ags)).map zK))),.sl false (oj ((c.js.map qZ).map wC).length (pi 0 ((c.js.map qZ).map wC))),.sl false (oj ((c.js.map XB).map xY).length (pi 0 ((c.js.map XB).map xY))),.sl false (oj (c.js.map λ_=>iA (-1)).length (pi 0 (c.js.map λ_=>iA (-1)))),.sl false (oj ((c.js.map λj=>RA j (qZ j) (XB j)).map wZ).length (pi 0 ((c.js.map λj=>RA j (qZ j) (XB j)).map wZ)))]=_
   rw[zAu,zAb,zAu,zAb,zAu,zAb,zAu,zAb,zAu,zAb,show(c.js.map λ_=>iA (-1))=(c.js.map λ_=>(-1:Int)).map iA by rw[zEf];rfl]
def bG (n a b:Int) (h:a<=n/\n<=b):zO 75 [iA n,iA a,iA b] [] (bA true) []:=by
 have k:=fQ n a b
 rwa [show uQ n a b=true from zAd h]at k
def u6 (j:Jn) (J:JV j):zO 140 [zD iA j.cf] [] (bA true) []:=by
 have hl:=zA iA j.cf;have L:=J.n;have hc:=J.c;have G:=W6 (n:=ln j.cf) zB;refine eM call140 λF hF=>?_
 refine WW ?_;refine zN (ln j.cf) [] [] [0,14,15] [16,0,14,15] Z (λi T U=>⟨(16,iA i)::T,U⟩) (Lq ?_ ?_)
 .intro u I;have M:=zJ iA j.cf u I;have z:=J.row u zB;have E:(2:Int) ^ (ln j.ph)=p2 (ln j.cf:Int):=by rw[hc];unfold p2;rw[zAx]
  rw[E,<-hl]at z;have C:=jP j.cf zB u u;rw[J.ir u zB]at C;have A:=λv:Nat=>jP j.cf zB u v
  have B:=λv:Nat=>jP j.cf zB v u
  have hs:=λv (hv:v<ln j.cf)=>J.sy u v zB zB
  rw[<-hl]at G;generalize j.cf.getD u dd=x at *;refine zQ C ?_;refine zN (ln j.cf) [] [] [0,3,14,15,16,38] [39,0,3,14,15,16,38] Z (λi T U=>⟨(39,iA i)::T,U⟩) (Lq ?_ ?_)
  .intro v hv;have A:=A v;have B:=B v;rw[hs v hv]at A;clear hs;generalize kX j.cf v u=b at *;cases b
   all_goals
    (refine yJ (xV A B) ?_)
    rfl
  ·(refine WW ?_)
   rfl
 .exact lc
def Wl (j:Jn) (J:JV j) (p:Nat) (z:p<ln j.ph):zO 141 [xQ (yH j p)] [] (bA true) []:=by
 have V:=J.rg p z;have U:=J.gp p z;obtain⟨W,t2,t3,t4,t5,t6,t7,t8,t9,A,B,Y,u⟩:=J.ti p z;generalize yH j p=t at *;have C:=bG t.ring 0 1 V;have E:=bG t.group 0 3 U;have G:=bG t.ming 1 60 ⟨W,zB⟩;have I:=bG t.maxg t.ming 60 ⟨zB,t3⟩;have L:=bG t.yel 1 60 ⟨t4,t5⟩;have M:=bG t.red 0 60 ⟨t6,t7⟩;have O:=bG t.walk 0 60 ⟨t8,t9⟩;have R:=bG t.clear 0 60 ⟨A,B⟩;by_cases S:t.walk=0
 .have h1:=u.1 S;clear u;refine eM call141 λF hF=>?_
  exact ld (Nx C E G I L M O R)
 .have h1:¬t.clear=0:=λh=>S (u.2 h)
  clear u;refine eM call141 λF hF=>?_
  exact ld (Nx C E G I L M O R)
def BS (j:Jn) (p i:Nat):Bool:=(yH j p).group==0||(ny i).any λq=>(yH j q).group==(yH j p).group-1
def Vl (j:Jn) (p i:Nat):BS j p (i+1)=(BS j p i||(yH j i).group==(yH j p).group-1):=by
 unfold BS;rw[zCf,List.any_append,zF0,List.any_nil,zEu,Bool.or_assoc]
def rt (j:Jn) (J:JV j) (p:Nat) (u:p<ln j.ph):BS j p (ln j.ph)=true:=by
 unfold BS;have B:=J.gp p u;by_cases z:(yH j p).group=0
 .rw[z];rfl
 .obtain⟨q,A,e⟩:=J.lo p u ((yH j p).group-1) zB zB;rw[zCm];exact .inr (zBz.2 ⟨q,zA3.2 A,by rw[zBl];exact e⟩)
theorem BT (j:Jn) (J:JV j):zO 76 [wD j] [] (bA true) []:=by
 have hl:=zA xQ j.ph;have ag:=zA iA j.cf;have hn:=J.n;have hc:=J.c;have Y:=u6 j J;have c2:=bG j.st 0 60 J.st;refine eM call76 λF hF=>?_
 refine yJ (xV Y c2) ?_;refine zN (ln j.ph) [1] [1] [1,42,43] [44,1,42,43] Z (λi T U=>⟨(44,iA i)::T,U⟩) (Lq ?_ ?_)
 .intro u G;have W:=zJ xQ j.ph u G
  change (j.ph.map xQ)[u]? =some (xQ (yH j u))at W
  have cp:=Wl j J u G;generalize yH j u=t at *;refine zQ cp ?_;rfl
 .clear Y c2;refine WW ?_;refine zN (ln j.ph) [1] [1] [1,53,54] [55,1,53,54] Z (λi T U=>⟨(55,iA i)::T,U⟩) (Lq ?_ ?_)
  .intro u G;have W:=zJ xQ j.ph u G
   change (j.ph.map xQ)[u]? =some (xQ (yH j u))at W
   have C:=rt j J u G;have hg:=J.gp u G;have A:BS j u 0=((yH j u).group==0):=by unfold BS;simp
   have E:=Vl j u;refine WW ?_;refine zN (ln j.ph) [1,7] [1,7] [1,6,7,53,54,55,61,62] [63,1,6,7,53,54,55,61,62] Z (λi T U=>⟨(63,iA i)::T,U⟩) (Lq ?_ ?_)
   .intro v hv;have B:=zJ xQ j.ph v hv
    change (j.ph.map xQ)[v]? =some (xQ (yH j v))at B
    have M:=jP j.cf zB u v;have z:=J.ap u v G hv;clear E A C;by_cases I:u=v
    .have V:(u:Int)=v:=by omega
     clear z;generalize yH j u=a,yH j v=b at *;refine WW ?_;rfl
    have V:¬(u:Int)=v:=by omega
    by_cases h1:(yH j u).ring=(yH j v).ring
    .rw[z I (.inl h1)]at M;clear z;generalize yH j u=a,yH j v=b at *;refine zQ M ?_;rfl
    by_cases h2:(yH j u).group=(yH j v).group
    .clear z;generalize yH j u=a,yH j v=b at *;refine WW ?_;rfl
    .rw[z I (.inr h2)]at M;clear z;generalize yH j u=a,yH j v=b at *;refine zQ M ?_;rfl
   .have L:∀b:Bool,((yH j u).group==0)=b->b=BS j u 0:=λb h=>by rw[A,h]
    by_cases O:(yH j u).group=0
    .have R:BS j u 0=true:=by rw[A,zBl];exact O
     clear L;refine WW ?_;refine zN (ln j.ph) [1,7] [1,7] [1,7,53,54,55,98,99] [10,100,1,7,53,54,55,98,99] Z (λi T U=>⟨(10,bA (BS j u i))::(100,iA i)::T,U⟩) ?_;(conv=>whnf);refine⟨by(rw[R];rfl),?_,?_⟩
     .intro v hv;have B:=zJ xQ j.ph v hv
      change (j.ph.map xQ)[v]? =some (xQ (yH j v))at B
      have e9:BS j u v=true:=by unfold BS;rw[O];rfl
      have S:BS j u (v+1)=true:=by unfold BS;rw[O];rfl
      rw[e9,S];generalize yH j u=a,yH j v=b at *;refine WW ?_;rfl
     .rw[C];refine WW ?_;rfl
    .have R:BS j u 0=false:=by rw[A,zAy];exact O
     clear L;refine WW ?_;refine zN (ln j.ph) [1,7] [1,7] [1,7,53,54,55,98,99] [10,100,1,7,53,54,55,98,99] Z (λi T U=>⟨(10,bA (BS j u i))::(100,iA i)::T,U⟩) ?_;(conv=>whnf);refine⟨by(rw[R];rfl),?_,?_⟩
     .intro v hv;have B:=zJ xQ j.ph v hv
      change (j.ph.map xQ)[v]? =some (xQ (yH j v))at B
      have S:=E v;rw[S];have ac:=J.gp v hv;generalize BS j u v=bb at *;clear C E A;generalize yH j u=a,yH j v=b at *;cases bb
      .by_cases hq:b.group=a.group-1
       .rw[show(false||b.group==a.group-1)=true by rw[zCp,zBl];exact hq];refine WW ?_;rfl
       .rw[show(false||b.group==a.group-1)=false by rw[zCp,zAy];exact hq];refine WW ?_;rfl
      .rw[zC6];refine WW ?_;rfl
     .rw[C];refine WW ?_;rfl
  .exact lc
def Yz (c:Cf) (h:HT c):zO 37 [wO c] [] (bA true) []:=by
 have hj:=h.j;have M:=h.a;have A:=zA wD c.js;have z:=zA vX c.ags;have C:=bG ((c.js.map wD).length:Int) 1 4 zB;have w2:=bG ((c.ags.map vX).length:Int) 1 4 zB;have E:=bG c.per 1 600 h.p;have G:=bG c.cap 0 100 h.cp;have I:=bG c.hold 1 60 h.h;have L:=bG c.lock 0 600 h.l;unfold wO zD;refine eM call37 λF hF=>?_
 refine yJ (xV C w2) ?_;refine zN ((c.js.map wD).length) [1] [1] [1,20,21] [22,1,20,21] Z (λi T U=>⟨(22,iA i)::T,U⟩) (Lq ?_ ?_)
 .intro i hi;have B:=zJ wD c.js i zB;have u:=BT _ (h.jv _ (zY c.js i zB));generalize c.js.getD i dd=j at *;refine zQ u ?_;rfl
 ·(refine WW ?_)
  refine zN ((c.ags.map vX).length) [1] [1] [1,31,32] [33,1,31,32] Z (λi T U=>⟨(33,iA i)::T,U⟩) (Lq ?_ ?_)
  .intro i hi;have B:=zJ vX c.ags i zB;have u:=GW (c.ags.getD i dd);rw[(nv _).2 (h.av _ (zY c.ags i zB))]at u;generalize c.ags.getD i dd=a at *;refine zQ u ?_;rfl
  .exact ld (aB E G I L)
