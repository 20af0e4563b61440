/- Part 32. -/
import Derived.Test.YtmamjhmoegjapaaGreatP31
namespace Go.Proofs.YtmamjhmoegjapaaGreat
namespace Av
open Tryz
set_option linter.all false
set_option maxRecDepth 4000
set_option maxHeartbeats 8000000
section
open Classical in
noncomputable def IZ (m:Ms):List Int:=if h:RE m then frF m.kind (WH h.2).choose else []
theorem zCn (m:Ms) (h:RE m):((IZ m).length<=300/\(m.args≠[]->∃q:List Int,IZ m=90::165::1::m.kind::q/\7<=q.length))/\zO 20 [yB m] [] (.tup [zD yA (IZ m),iA 0]) []:=by
 have hs:=(WH h.2).choose_spec;have e:IZ m=frF m.kind (WH h.2).choose:=by unfold IZ;rw[yEo h]
 rw[e];generalize (WH h.2).choose=p at *;obtain⟨h1,h2,h3⟩:=hs;obtain⟨k,tk,ar,da⟩:=m;obtain⟨h4,h5⟩:=h;dsimp only at *;subst h4;refine⟨⟨?_,λh9=>?_⟩,h3⟩
 ·simp only[frF,be4,zY2,zYr,zYq,yAe];have:(aL k p.length).length<=10:=by unfold aL;simp
  have:=h2.1;omega
 ·refine⟨0::(p.length:Int)::(p++be4 (aK (aL k p.length++p))),by simp[frF,aL],?_⟩;have h8:=h2.2 h9;simp only[be4,zY2,zYr,zYq,yAe];omega
noncomputable def UP (l:List Ms):List Int:=(l.map IZ).flatten
theorem zJb (l:List Ms) (m:Ms):UP (l++[m])=UP l++IZ m:=by simp[UP]
theorem HA:∀{l:List Ms},(∀m∈l,RE m)->(UP l).length<=300*l.length
 | [],_=>zY4 _
 |m::l,h=>by
  have h1:=(zCn m (h m zU)).1.1;have h2:=HA (l:=l) λx hx=>h x VX
  have e:UP (m::l)=IZ m++UP l:=rfl;rw[e,zYr,zY2];omega
theorem KB (l:List Ms) (hl:l.length<=1002) (h:∀m∈l,RE m):zO 98 [zD yB l] [] (zD yA (UP l)) []:=by
 have hml:=zA yB l;refine eM call98 λF hF=>?_
 refine WW ?_;refine xK 3 1001 1 rfl rfl rfl ?_;refine yS (l) [1001] [] [8,9] [3,10,8,9] rfl (λi pre T U=>⟨(3,.ref 1001 0 ((UP pre).map yA).length)::(10,iA i)::T,(1001,.arr 1 ((UP pre).map yA) true)::U⟩) ?_;(conv=>whnf);refine⟨by rfl,?_,?_⟩
 ·intro i pre x post hx hi;have hy:=xO yB hx hi;have hlt:=yX hx hi;obtain⟨⟨c1,_⟩,c2⟩:=zCn x (h x (wY hx));have hpl:=HA (l:=pre) λm hm=>h m (by rw[hx];simp[hm])
  have hpm:=zA yA (UP pre);have hbm:=zA yA (IZ x);rw[zJb,zYz];clear hx;generalize UP pre=X at *;generalize IZ x=Y at *;unfold yB at *;refine zW c2 ?_;rfl
 ·(refine WW ?_)
  exact zI [] rfl rfl (zZl (AV.sl false) zYv) rfl
structure RR where
 y:Cy
 ss:List Ss
def WB (y:Cy) (s:AV):AV:= .agg [zD wC y.c.js,zD wN y.c.ags,iA y.c.per,iA y.c.cap,iA y.c.hold,iA y.c.lock,bA false,iA y.now,zD zK y.ds,zD vF y.sg,zD vC y.sv,zD iA y.st,zD vO y.vw,s]
def cK (b:RR):AV:=WB b.y (zD kN b.ss)
structure BrI (b:RR):Prop where
 y:CyI b.y
 l:(b.ss.length:Int)=gJ b.y.c.ags b.y.c.ags.length
 s:∀s∈b.ss,SsI s
def sdA (S:List (List Int)) (f:List Int):AV:= .agg [zD (zD yA) S,zD yA f]
def aJ (ss:List Ss):List In:=ss.map λs=>(WF s).2
def NF (ss:List Ss) (i:Nat):List AV:=(List.range ss.length).map λk=>if k<i then kM (WF (ss.getD k default)).2 else .agg [bA false,.s (.slice none 0 0)]
def cL (ss:List Ss) (i:Nat):List Ss:=ZU (λ_ s=>(WF s).1) ss i
noncomputable def TZ (T:List (List Ms)) (i:Nat):List AV:=(List.range T.length).map λk=>if k<i then zD yA (UP (T.getD k default))else .s (.slice none 0 0)
theorem zJc (ss:List Ss):NF ss ss.length=(aJ ss).map kM:=by
 unfold NF aJ;rw[eQ,yC4];apply zZ9;intro j;rw[zYt,zYt];by_cases hj:j<ss.length
 ·rw[zZr hj,zZd hj];simp only[Option.map_some,Function.comp,zY0,zZd hj,yA1]
 ·rw[zZj wI,zZj zB];rfl
theorem zJd (T:List (List Ms)):TZ T T.length=(T.map UP).map (zD yA):=by
 unfold TZ;rw[eQ,yC4];apply zZ9;intro j;rw[zYt,zYt];by_cases hj:j<T.length
 ·rw[zZr hj,zZd hj];simp only[Option.map_some,Function.comp,zY0,zZd hj,yA1]
 ·rw[zZj wI,zZj zB];rfl
theorem zJe (b:RR) (h:BrI b) (y':Cy) (Td:List (List Ms)) (hM:MtP b.y y' (aJ b.ss) Td) (k:zO 18 [qB b.y,zD kM (aJ b.ss)] [] (.tup [qB y',tdA Td (MZ (b.y.now+1) y'.vw)]) []):
  zO 57 [WB b.y (.ref 1021 0 b.ss.length)] [(1021,.arr 4 (b.ss.map kN) false)] (.tup [WB y' (.ref 1021 0 b.ss.length),sdA (Td.map UP) (UP [MZ (b.y.now+1) y'.vw])]) [(1021,.arr 4 ((cL b.ss b.ss.length).map kN) false)]:=by
 obtain⟨y,ss⟩:=b;have hy:=h.y;have hs:=h.s;have hl:=h.l;dsimp only at *;have hw:=hy.v.ag;have hrf:=hy.rf
 have hsb:ss.length<=8:=by
  have:=jR hw y.c.ags.length (zYs _);have:=hw.1;omega
 have hrf':=hM.i.rf;have hTl:=hM.l;have hil:(aJ ss).length=ss.length:=by unfold aJ;rw[zYq]
 rw[hil]at hTl;have eC:qB y= .agg [zD wC y.c.js,zD wN y.c.ags,iA y.c.per,iA y.c.cap,iA y.c.hold,iA y.c.lock,bA false,iA y.now,zD zK y.ds,zD vF y.sg,zD vC y.sv,zD iA y.st,zD vO y.vw]:=by rw[<-hrf];rfl
 have eC':qB y'= .agg [zD wC y'.c.js,zD wN y'.c.ags,iA y'.c.per,iA y'.c.cap,iA y'.c.hold,iA y'.c.lock,bA false,iA y'.now,zD zK y'.ds,zD vF y'.sg,zD vC y'.sv,zD iA y'.st,zD vO y'.vw]:=by rw[<-hrf'];rfl
 rw[eC,eC',show∀f,tdA Td f= .agg [.sl false (Td.map aO),zD yB [f]]from λ_=>rfl]at k;have hTv:=hM.v;have kf:=KB [MZ (y.now+1) y'.vw] zU (λm hm=>by rw[zZu.1 hm];exact hM.f);generalize MZ (y.now+1) y'.vw=fm at *;have hsl:=zA kN ss
 have hi0:NF ss 0=List.replicate ss.length (.agg [bA false,.s (.slice none 0 0)]):=by
  unfold NF;apply zZ9;intro j;rw[zYt,yAm];by_cases hj:j<ss.length
  ·rw[zZr hj,zYp hj];simp
  ·rw[zYo hj,zZj wI];rfl
 have hs0:cL ss 0=ss:=jE _ _;unfold WB;refine eM call57 λF hF=>?_
 refine WW ?_;have hsn:∀i,((cL ss i).map kN).length=ss.length:=λi=>by unfold cL;rw[zYq,vG]
 have hin:∀i,(NF ss i).length=ss.length:=λi=>by unfold NF;rw[zYq,yAe]
 refine zP (ss.length) [1021,14,1,2,3] [1,2,3] [1,2,3,4,17] [18,1,2,3,4,17] rfl (λi T U=>⟨(18,iA i)::T,(1021,.arr 4 ((cL ss i).map kN) false)::(14,.arr 2 (NF ss i) false)::U⟩) ?_;(conv=>whnf);refine⟨by(rw[hi0,hs0];rfl),?_,?_⟩
 ·intro i hi;have hys:((cL ss i).map kN)[i]? =some (kN (ss.getD i default)):=by rw[zYt];unfold cL;rw[uV,zYp hi,zYo (yCo i)];rfl
  have hyi:(NF ss i)[i]? =some (.agg [bA false,.s (.slice none 0 0)]):=bD _ _ _ _ hi;have e1:(cL ss (i+1)).map kN=((cL ss i).map kN).set i (kN (WF (ss.getD i default)).1):=by unfold cL;rw[qC _ _ _ _ hi]
  have e2:NF ss (i+1)=(NF ss i).set i (kM (WF (ss.getD i default)).2):=eP _ _ _ _ hi;have hI:=hs _ (zZ ss i hi);have kt:=zCw (ss.getD i default) hI.y (by have:=hI.n;omega);have h1:=hsn i;have h2:=hin i;rw[e1,e2];clear e1 e2 hi0 hs0 hI hs hTv k;generalize (cL ss i).map kN=X at *;generalize NF ss i=Y at *;generalize (WF (ss.getD i default)).1=s1 at *;generalize (WF (ss.getD i default)).2=n1 at *;generalize ss.getD i default=s0 at *;refine zW kt ?_;rfl
 ·rw[zJc];refine uQ [1,2,3,1021] [1,2,3,4,17,18] rfl ?_
  (conv=>whnf)
  have hbm:=zA kM (aJ ss);simp only[zZv];rw[zYy (l:=(aJ ss).map kM) zB];have hTm:=zA aO Td;refine xA (vD k kf) ?_
  have hd0:TZ Td 0=List.replicate Td.length (.s (.slice none 0 0)):=by
   unfold TZ;apply zZ9;intro j;rw[zYt,yAm];by_cases hj:j<Td.length
   ·rw[zZr hj,zYp hj];simp
   ·rw[zYo hj,zZj wI];rfl
  have hdn:∀i,(TZ Td i).length=Td.length:=λi=>by unfold TZ;rw[zYq,yAe]
  rw[hTm];refine zP (Td.length) [50,1,2,3,8,1021] [1,2,3,8,1021] [1,2,3,8,56,57] [58,1,2,3,8,56,57] rfl (λi T U=>⟨(58,iA i)::T,(50,.arr 1 (TZ Td i) false)::U⟩) ?_;(conv=>whnf);refine⟨by(rw[hd0];rfl),?_,?_⟩
  ·intro i hi;have hyT:=zN aO Td i hi;have hyd:(TZ Td i)[i]? =some (.s (.slice none 0 0)):=bD _ _ _ _ hi;have e1:TZ Td (i+1)=(TZ Td i).set i (zD yA (UP (Td.getD i default))):=eP _ _ _ _ hi;obtain⟨v1,v2⟩:=hTv _ (zZ Td i hi);have kg:=KB (Td.getD i default) v1 v2;have h2:=hdn i;rw[e1];unfold aO at hyT;clear e1 hd0 hdn hi0 hs0 hs hTv k v2 kf;generalize TZ Td i=X at *;generalize UP (Td.getD i default)=bs at *;generalize Td.getD i default=ti at *;refine zW kg ?_;rfl
  ·(refine WW ?_)
   refine zI [1021] rfl rfl ?_ rfl
   show AV.tup [_,AV.agg [AV.sl false (List.take Td.length (TZ Td Td.length)),_]]=_
   rw[zYy (l:=TZ Td Td.length) (yAq (hdn _)),zJd];rfl
end
theorem zE5 (v:AV):(XU v).cells=v.cells.map XU:=by
 cases v with
 |agg cs=>show wkL cs=cs.map XU;exact zB1 cs
 |s v=>
  show(XU (.s v)).cells=[XU (.s v)]
  unfold XU
  split<;>rfl
 |_=>rfl
theorem xG.wkl {w:World} {D:Nat->Prop} {nn:Bool} {xs:List AV} {c:Value} (hv:xG w D (.sl nn xs) c):xG w D (.sl nn (xs.map XU)) c:=by
 cases hv with
 |nil a cap=>exact .nil a cap
 |nil1 a cap=>exact .nil1 a cap
 | sl _ _ b o sz cap f hx hL hc h=>
  have hl:(xs.map XU).length=xs.length:=zYq ..
  have hk:∀(i:Nat) (x:AV),(xs.map XU)[i]? =some x->∃y,xs[i]? =some y/\x.cells=y.cells.map XU:=λi x hx=>by
   rw[zYt,zY1]at hx;obtain⟨y,hy,rfl⟩:=hx;exact⟨y,hy,zE5 y⟩
  have hL':Lay w D (xs.map XU) b o sz f:=by
   refine⟨hL.lt,hL.nd,hL.pos,by rw[hl];exact hL.max,λi x hx=>?_,λi j hi hj=>hL.cell i j (by rw[hl]at hi;exact hi) hj,λi j hi hj=>hL.one i j (by rw[hl]at hi;exact hi) hj⟩;obtain⟨y,hy,he⟩:=hk i x hx;rw[he,zYq];exact hL.wide i y hy
  have:=xG.sl nn (xs.map XU) b o sz cap f (by simpa using hx) hL' (by rw[hl];exact hc) (λi x j v hi hj=>by
   obtain⟨y,hy,he⟩:=hk i x hi;rw[he,zYt,zY1]at hj;obtain⟨u,hu,rfl⟩:=hj
   exact(h i y j u hy hu).wk)
  rw[hl]at this;exact this
section
variable {P:Program} {K0:List Nat} {F:Fr K0} {m:Nat} {ops:Array Oper} {rest:List Oper} {fs:List FP} {tm:List (Nat×AV)} {h:List (Nat×xP)}
theorem wO.wkL {a:Act} {w:World} (R:wO F m ⟨tm,h⟩ a w) (t:Nat) {nn:Bool} {xs ys:List AV} (hv:zG tm t= .sl nn xs) (he:xs.map XU=ys):wO F m ⟨(t,.sl nn ys)::tm,h⟩ a w:=by
 obtain⟨⟨X,β,hX,H,Ht,KK,hJ,hD⟩,nd,gs,hl⟩:=R;refine⟨⟨X,β,hX,H,λj=>?_,KK,λi hi=>?_,hD⟩,nd,gs,hl⟩
 ·rw[yT];split
  ·rename_i hj;subst hj;have:=Ht j;dsimp only at this;rw[hv]at this
   cases this with
   |fz _ _ hf=>exact .fz _ _ (he▸hf.wkl)
  ·exact Ht j
 ·rw[yT]at hi;split at hi
  ·cases hi
  ·exact hJ i hi
theorem zWu {Q:List FP->St->Prop} (t:Nat) {nn:Bool} {xs ys:List AV} (hv:zG tm t= .sl nn xs) (he:xs.map XU=ys) (hk:zY P F m ops false rest ⟨(t,.sl nn ys)::tm,h⟩ fs Q):zY P F m ops false rest ⟨tm,h⟩ fs Q:=
 ⟨λa w R=>hk.run a w (R.wkL t hv he)⟩
end
theorem zJf (c:Cf) (hw:MB c.ags) (n:Nat) (hn:n<=c.ags.length):zO 41 [wJ c,iA n] [] (iA (gJ c.ags n)) []:=by
 have hl:=zA wN c.ags;have h4:=hw.1;have hb:=jR hw;unfold wJ;refine eM call41 λF hF=>?_
 refine WW ?_;refine zP (n) [] [] [1,9,10] [5,11,1,9,10] rfl (λi T U=>⟨(5,iA (gJ c.ags i))::(11,iA i)::T,U⟩) ?_;(conv=>whnf);refine⟨by rfl,?_,?_⟩
 ·intro i hi;have hy:=zN wN c.ags i zB;have h1:=hw.at (i:=i) zB;have h2:=hb i zB;rw[show gJ c.ags (i+1)=gJ c.ags i+(c.ags.getD i default).ses from rfl];clear hb;generalize gJ c.ags i=s at *;generalize c.ags.getD i default=a at *;refine WW ?_;rfl
 ·by_cases h9:n<c.ags.length
  ·have hy:=zN wN c.ags n h9;generalize c.ags.getD n default=a at *;refine WW ?_;exact zL
  ·(refine WW ?_)
   exact zL
def zSe:AV:= .agg [bA false,bA false,.s (.slice none 0 0),bA false]
def NG (ss:List Ss) (i:Nat):List AV:=(List.range ss.length).map λk=>if k<i then kN (ss.getD k default)else zSe
theorem zE6 (ss:List Ss):NG ss 0=List.replicate ss.length zSe:=by
 unfold NG;apply zZ9;intro j;rw[zYt,yAm];by_cases hj:j<ss.length
 ·rw[zZr hj,zYp hj];simp
 ·rw[zYo hj,zZj wI];rfl
theorem zJg (ss:List Ss):NG ss ss.length=ss.map kN:=by
 unfold NG;rw[eQ];apply zZ9;intro j;rw[zYt,zYt];by_cases hj:j<ss.length
 ·rw[zZr hj,zZd hj];simp only[Option.map_some,zY0,zZd hj,yA1]
 ·rw[zZj wI,zZj zB];rfl
theorem WC (b:RR) (h:BrI b):zO 51 [cK b] [] (WB b.y (.ref 1021 0 b.ss.length)) [(1021,.arr 4 (b.ss.map kN) false)]:=by
 obtain⟨y,ss⟩:=b;have hy:=h.y;have hs:=h.s;have hl:=h.l;dsimp only at *;have hw:=hy.v.ag;have hrf:=hy.rf
 have hsb:ss.length<=8:=by
  have:=jR hw y.c.ags.length (zYs _);have:=hw.1;omega
 have eC:qB y= .agg [zD wC y.c.js,zD wN y.c.ags,iA y.c.per,iA y.c.cap,iA y.c.hold,iA y.c.lock,bA false,iA y.now,zD zK y.ds,zD vF y.sg,zD vC y.sv,zD iA y.st,zD vO y.vw]:=by rw[<-hrf];rfl
 have k1:=ZO y hy.b;rw[eC]at k1;have hsl:=zA kN ss;unfold cK WB;dsimp only;refine eM call51 λF hF=>?_
 (repeat' (first|refine qS ?_|refine xR (λhc=>?_) (λhc=>?_)|refine wE (λhc=>?_)|(refine zE ?_;first|(refine gT ?_;refine cI 1021 tok rfl rfl rfl rfl rfl rfl rfl rfl rfl rfl rfl rfl rfl zB zB rfl rfl rfl ?_))|fail))
 rw[hsl];have hn:∀i,(NG ss i).length=ss.length:=λi=>by unfold NG;rw[zYq,yAe]
 refine zP (ss.length) [1021,1,2] [1,2] [1,2,3,11,12] [13,1,2,3,11,12] rfl (λi T U=>⟨(13,iA i)::T,(1021,.arr 4 (NG ss i) false)::U⟩) ?_;(conv=>whnf);refine⟨by(rw[zE6];rfl),?_,?_⟩
 ·intro i hi;have hy:=zN kN ss i hi;have hyc:(NG ss i)[i]? =some zSe:=bD _ _ _ _ hi;have e1:NG ss (i+1)=(NG ss i).set i (kN (ss.getD i default)):=eP _ _ _ _ hi;have hI:=hs _ (zZ ss i hi);have kx:=HR (ss.getD i default) (by have:=hI.n;omega);have h1:=hn i;rw[e1];clear e1 hs hI k1;unfold zSe at hyc;generalize NG ss i=X at *;generalize ss.getD i default=s at *;refine zW kx ?_;rfl
 ·rw[zJg];refine zW k1 ?_;exact zJ [1021] rfl rfl rfl rfl
def kS (c:Cf):RR:=⟨ZI c,List.replicate (gJ c.ags c.ags.length).toNat ⟨false,false,[],false⟩⟩
theorem zWv {α β:Type} [Inhabited α] [Inhabited β] (f:α->β) (l:List α) (k:Nat) (hk:k<l.length):(l.map f).getD k default=f (l.getD k default):=by
 rw[zY0,zYt,zZd hk,zY0,zZd hk];rfl
theorem zRg (c:Cf) (h:DY c):CyI (ZI c):=by
 have ha:=h.a;have hdl:(HM c c.ags.length).length=c.ags.length:=by simp[HM]
 have hmem:∀d∈HM c c.ags.length,∃k:Nat,k<c.ags.length/\d=XJ (k:Int) (c.ags.getD k default) (c.ags.getD k default).ses.toNat:=λd hd=>by
  unfold HM at hd;obtain⟨k,hk,rfl⟩:=zZ3.1 hd;exact⟨k,zZi.1 hk,rfl⟩
 refine⟨h,rfl,yAu _,hdl,λd hd=>?_,λa ha=>?_,λd hd=>?_,by simp[ZI],by simp[ZI],by simp[ZI],by simp[ZI],λw hw=>?_,λk hk=>?_⟩
 ·obtain⟨k,hk,rfl⟩:=hmem d hd;exact zF3 (h.av _ (zZ c.ags k hk)) k zB
 ·have ha':a<c.ags.length:=by rw[<-hdl];exact ha
  show((HM c c.ags.length).getD a default).rg.ag=_
  unfold HM;rw[zY0,zYt,zZr ha'];rfl
 ·obtain⟨k,hk,rfl⟩:=hmem d hd;exact λr hr=>by cases hr
 ·unfold ZI at hw;obtain⟨j,hj,rfl⟩:=zZ3.1 hw;exact zRl j (h.jv j hj) _ _
 ·have hk':k<c.js.length:=hk;have J:=h.jv _ (zZ c.js k hk')
  show JI (c.js.getD k default) ((c.js.map fU).getD k default) ((c.js.map NK).getD k default) 0
  rw[zWv fU c.js k hk',zWv NK c.js k hk'];refine⟨zKu J,by simp[NK,zP5],λe he=>?_,yAu _⟩;rw[(yCy.1 he).2]
  decide
theorem DP (c:Cf) (h:DY c):BrI (kS c):=by
 have hb:=jR h.ag c.ags.length (zYs _);refine⟨zRg c h,?_,λs hs=>?_⟩
 ·show((List.replicate _ _).length:Int)=_
  rw[zZ0]
  show((gJ c.ags c.ags.length).toNat:Int)=gJ c.ags c.ags.length
  omega
 ·rw[(yCy.1 hs).2];exact⟨kF,zY4 _⟩
theorem zCo (c:Cf) (h:DY c):zO 13 [wJ c] [] (cK (kS c)) []:=by
 have k1:=zUg c h;have hrf:=(zRg c h).rf;have hw:=h.ag;have k2:=zJf c hw c.ags.length (zYs _);have hal:=zA wN c.ags;have hb:=jR hw c.ags.length (zYs _);have h4:=hw.1;have eC:qB (ZI c)= .agg [zD wC (ZI c).c.js,zD wN (ZI c).c.ags,iA (ZI c).c.per,iA (ZI c).c.cap,iA (ZI c).c.hold,iA (ZI c).c.lock,bA false,iA (ZI c).now,zD zK (ZI c).ds,zD vF (ZI c).sg,zD vC (ZI c).sv,zD iA (ZI c).st,zD vO (ZI c).vw]:=by rw[<-hrf];rfl
 rw[eC]at k1;obtain⟨N,hN⟩:∃N:Nat,gJ c.ags c.ags.length=(N:Int):=⟨(gJ c.ags c.ags.length).toNat,zB⟩;rw[hN]at k2 hb;rw[<-hal]at k2
 have eB:cK (kS c)= .agg [zD wC (ZI c).c.js,zD wN (ZI c).c.ags,iA (ZI c).c.per,iA (ZI c).c.cap,iA (ZI c).c.hold,iA (ZI c).c.lock,bA false,iA (ZI c).now,zD zK (ZI c).ds,zD vF (ZI c).sg,zD vC (ZI c).sv,zD iA (ZI c).st,zD vO (ZI c).vw,.sl false (List.replicate N (.agg [bA false,bA false,zD yA [],bA false]))]:=by
  unfold cK WB kS;dsimp only;rw[hN];unfold zD;rw[yCd];rfl
 rw[eB];generalize ZI c=z at *;refine eM call13 λF hF=>?_
 (have zc1:=k1;have zc2:=k2;(repeat' (first|refine qS ?_|refine xR (λhc=>?_) (λhc=>?_)|refine wE (λhc=>?_)|(refine zE ?_;first|(refine gT ?_;refine cI 1021 tok rfl rfl rfl rfl rfl rfl rfl rfl rfl rfl rfl rfl rfl zB zB rfl rfl rfl ?_;refine gB [1,2,3] [1,2,3,16] rfl ?_;(conv=>whnf);(try simp only[zZv]);refine zWu 16 rfl rfl ?_))|fail))<;>clear zc1 zc2)
 refine zI [] rfl rfl ?_ rfl
 show AV.agg [zD wC z.c.js,zD wN z.c.ags,iA z.c.per,iA z.c.cap,iA z.c.hold,iA z.c.lock,bA false,iA z.now,zD zK z.ds,zD vF z.sg,zD vC z.sv,zD iA z.st,zD vO z.vw,.sl false (List.map XU (List.take N (List.replicate N zSe)))]=_
 rw[zYy (by rw[zZ0];exact zYs _),yCd];rfl
theorem zJh (l:List (List Int)) (hl:l.length<=1073741824):zO 153 [zD qV l] [] (.ref 1005 0 (l.map qV).length) [(1005,.arr 1 (l.map qV) false)]:=by
 have hll:=zA qV l;refine eM call153 λF hF=>?_
 refine xD 0 rfl (λcap hx=>?_) ?_
 ·have:l=[]:=by simpa using hx
  subst this
  (repeat' (first|refine AX ?_|refine xR (λhc=>?_) (λhc=>?_)|refine wE (λhc=>?_)|fail))
  refine uB 2 1005 1 rfl rfl rfl (yQ ?_);exact zJ [1005] rfl rfl rfl rfl
 ·repeat' (first|(refine zE ?_;first|refine wZ tok rfl rfl ?_|(refine wS ?_;refine yF (yM tok (.inl ⟨rfl,rfl⟩) rfl rfl rfl rfl) rfl ?_)|(refine yZ ?_;refine uF (nw:=[1005]) (yK tok 1005 (xs:=[]) rfl rfl rfl rfl rfl rfl rfl rfl rfl) rfl rfl rfl ?_)|(refine yW ?_;refine xX tok rfl rfl rfl rfl rfl rfl rfl (yY _ _ (λ_=>rfl)) rfl rfl rfl zB rfl ?_)|refine uM ?_)|(first|refine xM ?_|refine xB ?_|refine wU rfl ?_|refine zV rfl ?_|refine zQ rfl ?_|refine xF rfl (λhc=>?_) (λhc=>?_)|refine yV ?_|refine yQ ?_|refine xC ?_|refine yN ?_))
  exact zJ [1005] rfl rfl rfl rfl
def MY (d:xQ):AV:=wH d.rg (zD yL d.rq) (.ref 1005 0 (d.dr.map qV).length) (zD bA d.au)
theorem zJi (d:xQ) (hb:eU d):zO 102 [zK d] [] (MY d) [(1005,.arr 1 (d.dr.map qV) false)]:=by
 have k1:=JH d.rg hb.rg;have hq:=hb.q;have hdn:=hb.n;have hau:=hb.a;have k2:=XL d.rq zB;have k3:=zJh d.dr zB;have k4:=FI d.au zB;have hlq:=zA yL d.rq;have hld:=zA qV d.dr;unfold MY zK wH;unfold qG at k1;refine eM call102 λF hF=>?_
 refine xA (vD k1 k2) ?_;refine zP ((d.rq.map yL).length) [1001,1,2] [1,2] [1,2,15] [16,1,2,15] rfl (λi T U=>⟨(16,iA i)::T,(1001,.arr 5 (jC i (d.rq.map yL)) false)::U⟩) ?_;(conv=>whnf);refine⟨by rfl,?_,?_⟩
 ·intro i hi;have hi':i<d.rq.length:=by omega
  have hy:(jC i (d.rq.map yL))[i]? =some (yL (d.rq.getD i default)):=zN yL d.rq i hi';have e:=kO yL d.rq i hi';have c2:=cT (d.rq.getD i default).legs (hb.g (d.rq.getD i default) aH);generalize (d.rq.getD i default)=t at *;generalize jC i (d.rq.map yL)=xs at *;generalize jC (i+1) (d.rq.map yL)=ys at *;subst e;refine zW c2 ?_;rfl
 ·(refine zW k3 ?_)
  refine zP ((d.dr.map qV).length) [1005,1,2,1001] [1,2,1001] [1,2,38] [39,1,2,38] rfl (λi T U=>⟨(39,iA i)::T,(1005,.arr 1 (jC i (d.dr.map qV)) false)::U⟩) ?_;(conv=>whnf);refine⟨by rfl,?_,?_⟩
  ·intro i hi;have hi':i<d.dr.length:=by omega
   have hy:(jC i (d.dr.map qV))[i]? =some (qV (d.dr.getD i default)):=zN qV d.dr i hi';have e:=kO qV d.dr i hi';have c2:=wK (d.dr.getD i default) (by have:=hb.e (d.dr.getD i default) aH;omega);generalize (d.dr.getD i default)=t at *;generalize jC i (d.dr.map qV)=xs at *;generalize jC (i+1) (d.dr.map qV)=ys at *;subst e;refine zW c2 ?_;rfl
  ·(refine zW k4 ?_)
   refine zI [1005] rfl rfl ?_ rfl
   show wH d.rg (.sl false ((d.rq.map yL).take (d.rq.map yL).length)) (.ref 1005 0 (d.dr.map qV).length) (zD bA d.au)=_
   rw[zYv];rfl
theorem HB (K:List Nat) (h:yI):∀l:List xQ,uX K h (l.map zK)=l.map zK
 | []=>rfl
 |r::l=>by rw[yAa,uX,HB K h l];rfl
theorem NH (K:List Nat) (h:yI):∀l:List xQ,wF K h (l.map zK)=l.map zK
 | []=>rfl
 |r::l=>by rw[yAa,wF,NH K h l];rfl
theorem SA:∀l:List xQ,wD (l.map zK)=true
 | []=>rfl
 |r::l=>by rw[yAa,wD,SA l];rfl
def jA (pre:List xQ) (x:xQ) (post:List xQ):List AV:=pre.map zK++MY x::post.map zK
theorem NI (pre:List xQ) (x:xQ) (post:List xQ):(jA pre x post).length=pre.length+1+post.length:=by simp[jA];omega
theorem zJj {K:List Nat} (hK:K.contains 1005=true) (h:yI) (pre:List xQ) (x:xQ) (post:List xQ) (b:Bool):qZ K h (.arr 17 (jA pre x post) ⟨b,true⟩)= .arr 17 (jA pre x post) ⟨b,true⟩:=by
 have e:uX K h (jA pre x post)=jA pre x post:=by
  unfold jA;rw[OY,HB,uX,HB]
  congr 2
  have er:wQ K h (.ref 1005 0 (x.dr.map qV).length)= .ref 1005 0 (x.dr.map qV).length:=by
   unfold wQ;rw[hK];rfl
  show AV.agg [_,_,_,_,_,_,_,_,_,_,_,_,_,_,_,wQ K h (.ref 1005 0 (x.dr.map qV).length),_]=_
  rw[er];rfl
 have e2:wD (jA pre x post)=false:=by
  unfold jA;rw[XZ,SA,wD];rfl
 show xP.arr 17 (uX K h (jA pre x post)) ⟨b,!wD (uX K h (jA pre x post))⟩=_
 rw[e,e2];rfl
theorem zO8 (pre:List xQ) (x:xQ) (post:List xQ):(jA pre x post)[pre.length]? =some (MY x):=by
 unfold jA;rw[zZe zU,zYq,yA0];rfl
theorem zCp {pre:List xQ} {x:xQ} {post l:List xQ} (hL:l=pre++x::post):(l.map zK).set pre.length (MY x)=jA pre x post:=by
 subst hL;unfold jA;rw[zYz,yAa,yBr _ _ zU,zYq,yA0];rfl
theorem zE7 {pre:List xQ} {x:xQ} {post l:List xQ} (hL:l=pre++x::post) {i:Nat} (h1:pre.length<i) (h2:i<l.length):(jA pre x post)[i]? =some (zK (l.getD i default)):=by
 subst hL;rw[<-zCp rfl,yC9 zB];exact zN zK _ i h2
def zTw (y:Cy) (pre:List xQ) (x:xQ) (post:List xQ):AV:=YV y.c y.rf y.now (.ref 1011 0 y.ds.length) (zD vF y.sg) (zD vC y.sv) (zD iA y.st) (zD vO y.vw)
theorem zJk (y:Cy) (h:CyB y) (pre:List xQ) (x:xQ) (post:List xQ) (hL:y.ds=pre++x::post):zO 60 [qB y] [] (zTw y pre x post) [(1011,.arr 17 (jA pre x post) ⟨false,true⟩),(1005,.arr 1 (x.dr.map qV) false)]:=by
 have k1:=ZK y.ds (by have:=h.d;omega);have k2:=ZL y.sg (by have:=h.g;omega);have k3:=ZM y.sv (by have:=h.s;omega);have k4:=ZN y.st (by have:=h.t;omega);have k5:=YL y.vw h.v h.vb;have hl1:=zA zK y.ds;have hl2:=zA vF y.sg;have hl3:=zA vC y.sv;have hl4:=zA iA y.st;have hd:=h.d;have hg:=h.g;have hs:=h.s;have hlen:y.ds.length=pre.length+1+post.length:=by rw[hL];simp;omega
 have hcl:=NI pre x post;have hfr:∀(K:List Nat) (H:yI),K.contains 1005=true->qZ K H (.arr 17 (jA pre x post) ⟨false,true⟩)= .arr 17 (jA pre x post) ⟨false,true⟩:=λK H hK=>zJj hK H pre x post false
 unfold qB zTw YV;refine eM call60 λF hF=>?_
 refine zW k1 ?_;rw[hl1]
 refine vA (λn st=>∃i,n+i=y.ds.length/\st=if i<=pre.length then(⟨[(13,iA i),(1,.ptr 1 0 0),(2,.ptr 2 0 0),(12,iA y.ds.length)],[(1,.box [zD wC y.c.js,zD wN y.c.ags,iA y.c.per,iA y.c.cap,iA y.c.hold,iA y.c.lock,bA y.rf,iA y.now,.ref 1011 0 y.ds.length,zD vF y.sg,zD vC y.sv,zD iA y.st,zD vO y.vw]),(2,.box [.s (.slice none 0 0),.s (.slice none 0 0),iA 0,iA 0,iA 0,iA 0,bA false,iA 0,.s (.slice none 0 0),.s (.slice none 0 0),.s (.slice none 0 0),.s (.slice none 0 0),.s (.slice none 0 0)]),(1011,.arr 17 (y.ds.map zK) false)]⟩:St)
  else⟨[(13,iA i),(1,.ptr 1 0 0),(2,.ptr 2 0 0),(12,iA y.ds.length)],[(1,.box [zD wC y.c.js,zD wN y.c.ags,iA y.c.per,iA y.c.cap,iA y.c.hold,iA y.c.lock,bA y.rf,iA y.now,.ref 1011 0 y.ds.length,zD vF y.sg,zD vC y.sv,zD iA y.st,zD vO y.vw]),(2,.box [.s (.slice none 0 0),.s (.slice none 0 0),iA 0,iA 0,iA 0,iA 0,bA false,iA 0,.s (.slice none 0 0),.s (.slice none 0 0),.s (.slice none 0 0),.s (.slice none 0 0),.s (.slice none 0 0)]),(1011,.arr 17 (jA pre x post) ⟨false,true⟩),(1005,.arr 1 (x.dr.map qV) false)]⟩) y.ds.length [1,2,1011,1005] [13,1,2,12] rfl ⟨0,zB,by rw[zYp (zY4 _)];rfl⟩ ?_
 rintro n st ⟨i,hi,rfl⟩;by_cases hip:i<pre.length
 ·rw[zYp zB];have hil:i<y.ds.length:=by omega
  have hy:=zN zK y.ds i hil;have c2:=cQ (y.ds.getD i default) (h.db _ (zZ y.ds i hil));have e:=kO zK y.ds i hil;generalize y.ds.getD i default=d at *;generalize y.ds.map zK=xs at *;have hsame:=fF hy;refine zW c2 ?_;refine⟨n-1,zB,i+1,zB,?_⟩;rw[zYp zB]
  show(⟨_,[_,_,(1011,.arr 17 (xs.set i (zK d)) false)]⟩:St)=_
  rw[hsame];rfl
 by_cases hie:i=pre.length
 ·rw[zYp zB];subst hie;have hil:pre.length<y.ds.length:=by omega
  have hx:y.ds.getD pre.length default=x:=by rw[hL,zY0,zZe (zYs _),yA0];rfl
  have hy:=zN zK y.ds pre.length hil;have c2:=zJi (y.ds.getD pre.length default) (h.db _ (zZ y.ds pre.length hil));rw[hx]at hy c2;have hof:=zCp hL;generalize y.ds.map zK=xs at *;refine OO 1011 rfl ?_;unfold MY at c2;refine zW c2 ?_;refine⟨n-1,zB,pre.length+1,zB,?_⟩;rw[zYo zB]
  show(⟨_,[_,_,(1011,qZ _ _ (.arr 17 (xs.set pre.length (MY x)) ⟨false,true⟩)),_]⟩:St)=_
  rw[hof,hfr _ _ rfl];rfl
 rw[zYo zB];by_cases hil:i<y.ds.length
 ·have hy:=zE7 hL zB hil;have c2:=cQ (y.ds.getD i default) (h.db _ (zZ y.ds i hil));have hsame:=fF hy;generalize y.ds.getD i default=d at *;generalize jA pre x post=cs at *;refine zW c2 ?_;refine⟨n-1,zB,i+1,zB,?_⟩;rw[zYo zB]
  show(⟨_,[_,_,(1011,qZ _ _ (.arr 17 (cs.set i (zK d)) ⟨false,true⟩)),_]⟩:St)=_
  rw[hsame,hfr _ _ rfl];rfl
 have hie2:i=y.ds.length:=by omega
 subst hie2;generalize jA pre x post=cs at *;refine zW k2 ?_;rw[hl2];refine vA (λn st=>∃i,n+i=y.sg.length/\st=(⟨[(34,iA i),(1,.ptr 1 0 0),(2,.ptr 2 0 0),(33,iA y.sg.length)],[(1,.box [zD wC y.c.js,zD wN y.c.ags,iA y.c.per,iA y.c.cap,iA y.c.hold,iA y.c.lock,bA y.rf,iA y.now,.ref 1011 0 y.ds.length,.ref 1012 0 y.sg.length,zD vC y.sv,zD iA y.st,zD vO y.vw]),(2,.box [.s (.slice none 0 0),.s (.slice none 0 0),iA 0,iA 0,iA 0,iA 0,bA false,iA 0,.s (.slice none 0 0),.s (.slice none 0 0),.s (.slice none 0 0),.s (.slice none 0 0),.s (.slice none 0 0)]),(1011,.arr 17 cs ⟨false,true⟩),(1005,.arr 1 (x.dr.map qV) false),(1012,.arr 5 (y.sg.map vF) false)]⟩:St)) y.sg.length [1,2,1011,1005,1012] [34,1,2,33] rfl ⟨0,zB,?_⟩ ?_
 ·show(⟨_,[_,_,(1011,qZ _ _ (.arr 17 cs ⟨false,true⟩)),_,_]⟩:St)=_
  rw[hfr _ _ rfl];rfl
 rintro n st ⟨i,hi2,rfl⟩;by_cases hil:i<y.sg.length
 ·have hy:=zN vF y.sg i hil;have hgb:=h.gb _ (zZ y.sg i hil);have c2:=zDc (y.sg.getD i default) zB zB;have hsame:=fF hy;generalize y.sg.getD i default=d at *;generalize y.sg.map vF=xs at *;refine zW c2 ?_;refine⟨n-1,zB,i+1,zB,?_⟩
  show(⟨_,[_,_,(1011,qZ _ _ (.arr 17 cs ⟨false,true⟩)),_,(1012,.arr 5 (xs.set i (vF d)) false)]⟩:St)=_
  rw[hsame,hfr _ _ rfl];rfl
 have hie3:i=y.sg.length:=by omega
 subst hie3;refine zW k3 ?_;rw[hl3];refine vA (λn st=>∃i,n+i=y.sv.length/\st=(⟨[(55,iA i),(1,.ptr 1 0 0),(2,.ptr 2 0 0),(54,iA y.sv.length)],[(1,.box [zD wC y.c.js,zD wN y.c.ags,iA y.c.per,iA y.c.cap,iA y.c.hold,iA y.c.lock,bA y.rf,iA y.now,.ref 1011 0 y.ds.length,.ref 1012 0 y.sg.length,.ref 1013 0 y.sv.length,zD iA y.st,zD vO y.vw]),(2,.box [.s (.slice none 0 0),.s (.slice none 0 0),iA 0,iA 0,iA 0,iA 0,bA false,iA 0,.s (.slice none 0 0),.s (.slice none 0 0),.s (.slice none 0 0),.s (.slice none 0 0),.s (.slice none 0 0)]),(1011,.arr 17 cs ⟨false,true⟩),(1005,.arr 1 (x.dr.map qV) false),(1012,.arr 5 (y.sg.map vF) false),(1013,.arr 3 (y.sv.map vC) false)]⟩:St)) y.sv.length [1,2,1011,1005,1012,1013] [55,1,2,54] rfl ⟨0,zB,?_⟩ ?_
 ·show(⟨_,[_,_,(1011,qZ _ _ (.arr 17 cs ⟨false,true⟩)),_,_,_]⟩:St)=_
  rw[hfr _ _ rfl];rfl
 rintro n st ⟨i,hi3,rfl⟩;by_cases hil:i<y.sv.length
 ·have hy:=zN vC y.sv i hil;have hsb:=h.sb _ (zZ y.sv i hil);have c2:=UV (y.sv.getD i default) ⟨zB⟩;have hsame:=fF hy;generalize y.sv.getD i default=d at *;generalize y.sv.map vC=xs at *;refine zW c2 ?_;refine⟨n-1,zB,i+1,zB,?_⟩
  show(⟨_,[_,_,(1011,qZ _ _ (.arr 17 cs ⟨false,true⟩)),_,_,(1013,.arr 3 (xs.set i (vC d)) false)]⟩:St)=_
  rw[hsame,hfr _ _ rfl];rfl
 have hie4:i=y.sv.length:=by omega
 subst hie4;refine xA (vD k4 k5) ?_;refine zI [1011,1005] rfl rfl ?_ ?_
 ·show AV.agg [zD wC y.c.js,zD wN y.c.ags,iA y.c.per,iA y.c.cap,iA y.c.hold,iA y.c.lock,bA y.rf,iA y.now,.ref 1011 0 y.ds.length,.sl false (List.take y.sg.length (y.sg.map vF)),.sl false (List.take y.sv.length (y.sv.map vC)),.sl false (List.take (y.st.map iA).length (y.st.map iA)),zD vO y.vw]=_
  rw[zYy (yAq hl2),zYy (yAq hl3),zYv];rfl
 ·show [(1011,qZ _ _ (.arr 17 cs ⟨false,true⟩)),(1005,_)]=_
  rw[hfr _ _ rfl];rfl
theorem zJl {h:yI} {pre post:List xQ} {x:xQ} {b fl:Bool} (h1:h 1011=some (.arr 17 (jA pre x post) ⟨b,true⟩)) (h2:h 1005=some (.arr 1 (x.dr.map qV) ⟨fl,false⟩)):
  wQ [] h (.ref 1011 0 (jA pre x post).length)=zD zK (pre++x::post):=by
 have e:wF [] h (jA pre x post)=(pre++x::post).map zK:=by
  unfold jA;rw[TU,NH,wF,NH,zYz,yAa]
  congr 1
  congr 1
  have e2:vS [] h (.ref 1005 0 (x.dr.map qV).length)=zD qV x.dr:=by
   simp only[vS,h2]
   show AV.sl false (((x.dr.map qV).drop 0).take (x.dr.map qV).length)=_
   rw[zZv,zYv];rfl
  show AV.agg [_,_,_,_,_,_,_,_,_,_,_,_,_,_,_,vS [] h (.ref 1005 0 (x.dr.map qV).length),_]=_
  rw[e2];rfl
 have hl2:(jA pre x post).length=((pre++x::post).map zK).length:=by rw[NI];simp;omega
 rw[hl2];simp only[wQ,h1]
 show(bif wD (wF [] h (jA pre x post))then AV.sl false (((wF [] h (jA pre x post)).drop 0).take _)else .bot)=_
 rw[e,SA,zZv,zYv];rfl
theorem zJm (y:Cy) (h:CyI y) (a:Int) (d:List Int) (hd:BY d) (hd9:d.length<=1000000):∃y':Cy,CyI y'/\y'.c=y.c/\(y'.now=y.now/\y'.sg=y.sg)/\zO 55 [qB y,iA a,zD yA d] [] (qB y') []:=by
 have hb:=h.b;have hrf:=h.rf;have hdl:=zA zK y.ds;have hdm:=zA yA d;have eC:qB y= .agg [zD wC y.c.js,zD wN y.c.ags,iA y.c.per,iA y.c.cap,iA y.c.hold,iA y.c.lock,bA false,iA y.now,zD zK y.ds,zD vF y.sg,zD vC y.sv,zD iA y.st,zD vO y.vw]:=by rw[<-hrf];rfl
 by_cases ha:0<=a/\a<(y.ds.length:Int)
 case neg=>
  refine⟨y,h,rfl,⟨rfl,rfl⟩,?_⟩;have k1:=ZO y hb;rw[eC]at k1⊢;by_cases h0:a<0
  ·(refine eM call55 λF hF=>?_)
   refine zW k1 ?_;exact zL
  ·(refine eM call55 λF hF=>?_)
   refine zW k1 ?_;exact zL
 obtain⟨a0,a1⟩:=ha;by_cases h8:d.length=8
 case neg=>
  refine⟨y,h,rfl,⟨rfl,rfl⟩,?_⟩;have k1:=ZO y hb;rw[eC]at k1⊢;refine eM call55 λF hF=>?_
  refine zW k1 ?_;exact zL
 have hyd:=yP zK y.ds a a0 a1;have hI:=h.di _ (zZ y.ds a.toNat zB);have hdn:=hI.dn;by_cases hr:(y.ds.getD a.toNat default).dr.length<8
 case neg=>
  refine⟨y,h,rfl,⟨rfl,rfl⟩,?_⟩;have k1:=NR y hb;unfold zKm zKn YV at k1;rw[eC,hrf]at k1;rw[eC];generalize y.ds.getD a.toNat default=x at *;have hxl:=zA qV x.dr;unfold zK wH at hyd;refine eM call55 λF hF=>?_
  (have zc1:=k1;(repeat' (first|refine qS ?_|refine xR (λhc=>?_) (λhc=>?_)|refine wE (λhc=>?_)|(refine zE ?_;first|(refine OS ?_;refine yF (qO rfl rfl hyd) rfl ?_))|fail))<;>clear zc1)
  refine zI [] rfl rfl ?_ rfl
  show AV.agg [zD wC y.c.js,zD wN y.c.ags,iA y.c.per,iA y.c.cap,iA y.c.hold,iA y.c.lock,bA false,iA y.now,.sl false (List.take (y.ds.map zK).length (y.ds.map zK)),.sl false (List.take (y.sg.map vF).length (y.sg.map vF)),.sl false (List.take (y.sv.map vC).length (y.sv.map vC)),.sl false (List.take (y.st.map iA).length (y.st.map iA)),zD vO y.vw]=_
  rw[zYv,zYv,zYv,zYv];rfl
 obtain⟨n,hn⟩:∃n:Nat,a=(n:Int):=⟨a.toNat,zB⟩;subst hn;have hnl:n<y.ds.length:=by omega
 rw[yAc]at hI hr hdn
 have hL:y.ds=y.ds.take n++y.ds.getD n default::y.ds.drop (n+1):=by
  rw[zY0,zZd hnl]
  show _=_++y.ds[n]::_
  rw[<-yBo hnl,yCe]
 have hpn:(y.ds.take n).length=n:=by rw[zY5];omega
 have k1:=zJk y hb (y.ds.take n) (y.ds.getD n default) (y.ds.drop (n+1)) hL;have k2:=wK d zB;have hat:=zO8 (y.ds.take n) (y.ds.getD n default) (y.ds.drop (n+1));have hcl:=NI (y.ds.take n) (y.ds.getD n default) (y.ds.drop (n+1));rw[hpn]at hat hcl;have hcl2:(jA (y.ds.take n) (y.ds.getD n default) (y.ds.drop (n+1))).length=y.ds.length:=by rw[hcl,zZk];omega
 have hset:∀D:List (List Int),(jA (y.ds.take n) (y.ds.getD n default) (y.ds.drop (n+1))).set n (MY ⟨(y.ds.getD n default).rg,(y.ds.getD n default).rq,D,(y.ds.getD n default).au⟩)=jA (y.ds.take n) ⟨(y.ds.getD n default).rg,(y.ds.getD n default).rq,D,(y.ds.getD n default).au⟩ (y.ds.drop (n+1)):=λD=>by
  unfold jA;rw[yBr _ _ (by rw[zYq,hpn];exact zYs _),zYq,hpn,yA0];rfl
 have hds:∀x':xQ,y.ds.take n++x'::y.ds.drop (n+1)=y.ds.set n x':=λx'=>by
  rw[List.set_eq_take_append_cons_drop,zYp hnl]
 refine⟨⟨y.c,false,y.now,y.ds.set n ⟨(y.ds.getD n default).rg,(y.ds.getD n default).rq,(y.ds.getD n default).dr++[d],(y.ds.getD n default).au⟩,y.sg,y.sv,y.st,y.vw⟩,⟨h.v,rfl,h.n0,by dsimp only;rw[yAk];exact h.dl,λz hz=>?_,λi hi=>?_,λz hz=>?_,h.gl,h.sl,h.tl,h.wl,h.wb,h.j⟩,rfl,⟨rfl,rfl⟩,?_⟩
 ·rcases yBy hz with hz|rfl
  ·exact h.di z hz
  ·refine⟨hI.b,hI.v,hI.q,hI.lg,hI.a,hI.n,hI.t8,hI.br,hI.bb,hI.bl,hI.au,?_,λx hx=>?_,hI.vh⟩
   ·dsimp only;rw[zYr];simp only[zY2,zZz];omega
   ·rcases zZa.1 hx with hx|hx
    ·exact hI.dr x hx
    ·rw[zZu.1 hx];exact⟨h8,hd⟩
 ·dsimp only at hi⊢;rw[yAk]at hi;rw[KT _ _ _ _ hi];split
  ·rename_i e;rw[<-e];exact h.dg n hnl
  ·exact h.dg i hi
 ·rcases yBy hz with hz|rfl
  ·exact h.sc z hz
  ·exact h.sc (y.ds.getD n default) (zZ y.ds n hnl)
 ·unfold zTw YV at k1;rw[eC,hrf]at k1;rw[eC,<-hds];have hfin:=λH fl h1 h2=>zJl (h:=H) (pre:=y.ds.take n) (post:=y.ds.drop (n+1)) (x:=⟨(y.ds.getD n default).rg,(y.ds.getD n default).rq,(y.ds.getD n default).dr++[d],(y.ds.getD n default).au⟩) (b:=false) (fl:=fl) h1 h2
  rw[<-hset]at hfin;clear hL hds hset hyd hI hcl;rw[show∀l:List xQ,qB ⟨y.c,false,y.now,l,y.sg,y.sv,y.st,y.vw⟩= .agg [zD wC y.c.js,zD wN y.c.ags,iA y.c.per,iA y.c.cap,iA y.c.hold,iA y.c.lock,bA false,iA y.now,zD zK l,zD vF y.sg,zD vC y.sv,zD iA y.st,zD vO y.vw]from λ_=>rfl];generalize y.ds.getD n default=x at *;generalize jA (y.ds.take n) x (y.ds.drop (n+1))=cs at *;have hxl:=zA qV x.dr;unfold MY wH at hat;refine eM call55 λF hF=>?_
  (have zc1:=k1;have zc2:=k2;(repeat' (first|refine qS ?_|refine xR (λhc=>?_) (λhc=>?_)|refine wE (λhc=>?_)|(refine zE ?_;first|(refine OS ?_;refine yF (qO rfl rfl hat) rfl ?_))|fail))<;>clear zc1 zc2)
  simp only[MY,zYz]at hfin;rw[yAk,hcl2]at hfin;refine zI [] rfl rfl ?_ rfl;refine(zZl (λw=>AV.agg [zD wC y.c.js,zD wN y.c.ags,iA y.c.per,iA y.c.cap,iA y.c.hold,iA y.c.lock,bA false,iA y.now,XU w,zD vF y.sg,zD vC y.sv,zD iA y.st,zD vO y.vw]) (hfin _ true ?_ ?_)).trans ?_
  ·rfl
  ·rfl
  ·rfl
def inR (b:RR) (k:Int):Bool:=decide (0<=k/\k<(b.ss.length:Int))
def ssF (e:Ev) (s:Ss):Ss:=if e.k=1 then(if s.op=true then s else⟨true,false,[],false⟩)else if e.k=2 then⟨false,false,[],false⟩else CG s e.y
def doS (b:RR) (e:Ev):RR:=if inR b e.s=true then⟨b.y,b.ss.set e.s.toNat (ssF e (b.ss.getD e.s.toNat default))⟩else b
def sd0:AV:= .agg [.sl false [],.sl false []]
section
variable (b:RR) (h:BrI b)
include h
theorem zA1:∃N:Nat,b.ss.length=N/\N<=8:=by
 have hw:=h.y.v.ag;have h1:=h.l;have h2:=jR hw b.y.c.ags.length (zYs _);have h3:=hw.1;exact⟨_,rfl,zB⟩
theorem zX8 (e:Ev) (hk:e.k=1∨e.k=2∨e.k=3) (hb:BY e.y) (hl:e.y.length<=1000000):zO 15 [cK b,wT e] [] (.tup [cK (doS b e),sd0,bA false]) []:=by
 obtain⟨N,hN,hN8⟩:=zA1 b h;have k1:=WC b h;have hs:=h.s;have hsl:=zA kN b.ss;obtain⟨y,ss⟩:=b;dsimp only at *;unfold doS inR;dsimp only;unfold cK WB at *;dsimp only at *;by_cases hr:0<=e.s/\e.s<(ss.length:Int)
 ·rw[zYp (zYu hr)];obtain⟨r0,r1⟩:=hr;have hy:=yP kN ss e.s r0 r1;have hI:=hs _ (zZ ss e.s.toNat zB);have hIn:=hI.n;have ko:=zCx (ss.getD e.s.toNat default) zB;have kd:=zPe (ss.getD e.s.toNat default);have kr:=zUa (ss.getD e.s.toNat default) hIn e.y hl;dsimp only;rw[show zD kN (ss.set e.s.toNat (ssF e (ss.getD e.s.toNat default)))= .sl false ((ss.map kN).set e.s.toNat (kN (ssF e (ss.getD e.s.toNat default)))) by unfold zD;rw[yAw]];unfold ssF;clear hI;obtain⟨ek,es,ea,en,eb⟩:=e;dsimp only at *;generalize ss.getD es.toNat default=s at*
  rcases hk with rfl|rfl|rfl
  ·rw[zYp rfl];generalize (if s.op=true then s else⟨true,false,[],false⟩:Ss)=s1 at *;unfold wT;refine eM call15 λF hF=>?_
   refine xA (vD k1 ko) ?_;refine zI [] rfl rfl ?_ rfl
   show AV.tup [AV.agg [zD wC y.c.js,zD wN y.c.ags,iA y.c.per,iA y.c.cap,iA y.c.hold,iA y.c.lock,bA false,iA y.now,zD zK y.ds,zD vF y.sg,zD vC y.sv,zD iA y.st,zD vO y.vw,.sl false (List.take ss.length ((ss.map kN).set es.toNat (kN s1)))],sd0,bA false]=_
   rw[zYy zH4]
  ·rw[zYo xN,zYp rfl];unfold wT;refine eM call15 λF hF=>?_
   refine xA (vD k1 kd) ?_;refine zI [] rfl rfl ?_ rfl
   show AV.tup [AV.agg [zD wC y.c.js,zD wN y.c.ags,iA y.c.per,iA y.c.cap,iA y.c.hold,iA y.c.lock,bA false,iA y.now,zD zK y.ds,zD vF y.sg,zD vC y.sv,zD iA y.st,zD vO y.vw,.sl false (List.take ss.length ((ss.map kN).set es.toNat (kN ⟨false,false,[],false⟩)))],sd0,bA false]=_
   rw[zYy zH4]
  ·rw[zYo xN,zYo xN];unfold wT;refine eM call15 λF hF=>?_
   refine xA (vD k1 kr) ?_;refine zI [] rfl rfl ?_ rfl
   show AV.tup [AV.agg [zD wC y.c.js,zD wN y.c.ags,iA y.c.per,iA y.c.cap,iA y.c.hold,iA y.c.lock,bA false,iA y.now,zD zK y.ds,zD vF y.sg,zD vC y.sv,zD iA y.st,zD vO y.vw,.sl false (List.take ss.length ((ss.map kN).set es.toNat (kN (CG s eb))))],sd0,bA false]=_
   rw[zYy zH4]
 ·rw[zYo (by rw[zYx];exact hr)];dsimp only;obtain⟨ek,es,ea,en,eb⟩:=e;dsimp only at*
  rcases hk with rfl|rfl|rfl
  all_goals
   unfold wT;dsimp only;by_cases h0:es<0
   ·(refine eM call15 λF hF=>?_)
    refine zW k1 ?_;refine zI [] rfl rfl ?_ rfl
    show AV.tup [AV.agg [zD wC y.c.js,zD wN y.c.ags,iA y.c.per,iA y.c.cap,iA y.c.hold,iA y.c.lock,bA false,iA y.now,zD zK y.ds,zD vF y.sg,zD vC y.sv,zD iA y.st,zD vO y.vw,.sl false (List.take ss.length (ss.map kN))],sd0,bA false]=_
    rw[zYy (yAq hsl)];rfl
   ·(refine eM call15 λF hF=>?_)
    refine zW k1 ?_;refine zI [] rfl rfl ?_ rfl
    show AV.tup [AV.agg [zD wC y.c.js,zD wN y.c.ags,iA y.c.per,iA y.c.cap,iA y.c.hold,iA y.c.lock,bA false,iA y.now,zD zK y.ds,zD vF y.sg,zD vC y.sv,zD iA y.st,zD vO y.vw,.sl false (List.take ss.length (ss.map kN))],sd0,bA false]=_
    rw[zYy (yAq hsl)];rfl
theorem zX9 (e:Ev) (hk:e.k=4∨e.k=5) (hb:BY e.y) (hl:e.y.length<=1000000):∃y':Cy,CyI y'/\y'.c=b.y.c/\(y'.now=b.y.now/\y'.sg=b.y.sg)/\zO 15 [cK b,wT e] [] (.tup [cK ⟨y',b.ss⟩,sd0,bA false]) []:=by
 obtain⟨N,hN,hN8⟩:=zA1 b h;have k1:=WC b h;have hsl:=zA kN b.ss;obtain⟨y,ss⟩:=b;have hy:=h.y;dsimp only at *;obtain⟨ek,es,ea,en,eb⟩:=e;dsimp only at*
 rcases hk with rfl|rfl
 ·obtain⟨y',i1,i2,i3,kd⟩:=zJm y hy ea eb hb hl;refine⟨y',i1,i2,i3,?_⟩;have hrf:=hy.rf;have hrf':=i1.rf;have eC:qB y= .agg [zD wC y.c.js,zD wN y.c.ags,iA y.c.per,iA y.c.cap,iA y.c.hold,iA y.c.lock,bA false,iA y.now,zD zK y.ds,zD vF y.sg,zD vC y.sv,zD iA y.st,zD vO y.vw]:=by rw[<-hrf];rfl
  have eC':qB y'= .agg [zD wC y'.c.js,zD wN y'.c.ags,iA y'.c.per,iA y'.c.cap,iA y'.c.hold,iA y'.c.lock,bA false,iA y'.now,zD zK y'.ds,zD vF y'.sg,zD vC y'.sv,zD iA y'.st,zD vO y'.vw]:=by rw[<-hrf'];rfl
  rw[eC,eC']at kd;unfold cK WB at *;dsimp only at *;unfold wT;dsimp only;by_cases h0:es<0
  ·(refine eM call15 λF hF=>?_)
   refine xA (vD k1 kd) ?_;refine zI [] rfl rfl ?_ rfl
   show AV.tup [AV.agg [zD wC y'.c.js,zD wN y'.c.ags,iA y'.c.per,iA y'.c.cap,iA y'.c.hold,iA y'.c.lock,bA false,iA y'.now,zD zK y'.ds,zD vF y'.sg,zD vC y'.sv,zD iA y'.st,zD vO y'.vw,.sl false (List.take ss.length (ss.map kN))],sd0,bA false]=_
   rw[zYy (yAq hsl)];rfl
  ·(refine eM call15 λF hF=>?_)
   refine xA (vD k1 kd) ?_;refine zI [] rfl rfl ?_ rfl
   show AV.tup [AV.agg [zD wC y'.c.js,zD wN y'.c.ags,iA y'.c.per,iA y'.c.cap,iA y'.c.hold,iA y'.c.lock,bA false,iA y'.now,zD zK y'.ds,zD vF y'.sg,zD vC y'.sv,zD iA y'.st,zD vO y'.vw,.sl false (List.take ss.length (ss.map kN))],sd0,bA false]=_
   rw[zYy (yAq hsl)];rfl
 ·obtain⟨y',i1,i2,i3,kd⟩:=zFq y hy ea en;refine⟨y',i1,i2,i3,?_⟩;have hrf:=hy.rf;have hrf':=i1.rf;have eC:qB y= .agg [zD wC y.c.js,zD wN y.c.ags,iA y.c.per,iA y.c.cap,iA y.c.hold,iA y.c.lock,bA false,iA y.now,zD zK y.ds,zD vF y.sg,zD vC y.sv,zD iA y.st,zD vO y.vw]:=by rw[<-hrf];rfl
  have eC':qB y'= .agg [zD wC y'.c.js,zD wN y'.c.ags,iA y'.c.per,iA y'.c.cap,iA y'.c.hold,iA y'.c.lock,bA false,iA y'.now,zD zK y'.ds,zD vF y'.sg,zD vC y'.sv,zD iA y'.st,zD vO y'.vw]:=by rw[<-hrf'];rfl
  rw[eC,eC']at kd;unfold cK WB at *;dsimp only at *;unfold wT;dsimp only;by_cases h0:es<0
  ·(refine eM call15 λF hF=>?_)
   refine xA (vD k1 kd) ?_;refine zI [] rfl rfl ?_ rfl
   show AV.tup [AV.agg [zD wC y'.c.js,zD wN y'.c.ags,iA y'.c.per,iA y'.c.cap,iA y'.c.hold,iA y'.c.lock,bA false,iA y'.now,zD zK y'.ds,zD vF y'.sg,zD vC y'.sv,zD iA y'.st,zD vO y'.vw,.sl false (List.take ss.length (ss.map kN))],sd0,bA false]=_
   rw[zYy (yAq hsl)];rfl
  ·(refine eM call15 λF hF=>?_)
   refine xA (vD k1 kd) ?_;refine zI [] rfl rfl ?_ rfl
   show AV.tup [AV.agg [zD wC y'.c.js,zD wN y'.c.ags,iA y'.c.per,iA y'.c.cap,iA y'.c.hold,iA y'.c.lock,bA false,iA y'.now,zD zK y'.ds,zD vF y'.sg,zD vC y'.sv,zD iA y'.st,zD vO y'.vw,.sl false (List.take ss.length (ss.map kN))],sd0,bA false]=_
   rw[zYy (yAq hsl)];rfl
theorem DQ (ss:List Ss):cL ss ss.length=ss.map λs=>(WF s).1:=by
 unfold cL;apply zZ9;intro j;rw[uV,zYt];by_cases hj:j<ss.length
 ·rw[zYp hj,zYp hj,zZd hj];simp only[Option.map_some,zY0,zZd hj,yA1]
 ·rw[zYo hj,zZj zB];rfl
theorem zYa (hn:b.y.now<1000000000) (e:Ev) (hk:e.k=6):∃(y':Cy) (Td:List (List Ms)),MtP b.y y' (aJ b.ss) Td/\zO 18 [qB b.y,zD kM (aJ b.ss)] [] (.tup [qB y',tdO Td (MZ (b.y.now+1) y'.vw)]) (tdH Td)/\zO 15 [cK b,wT e] [] (.tup [cK ⟨y',cL b.ss b.ss.length⟩,sdA (Td.map UP) (UP [MZ (b.y.now+1) y'.vw]),bA true]) []:=by
 obtain⟨N,hN,hN8⟩:=zA1 b h;have k1:=WC b h;have hlen:(aJ b.ss).length=b.ss.length:=by unfold aJ;rw[zYq]
 obtain⟨y',Td,hM,km⟩:=zMd b.y h.y hn (aJ b.ss) (by rw[hlen];exact h.l) (λi hi=>by
  unfold aJ at hi;obtain⟨s,hs,rfl⟩:=zZ3.1 hi
  exact(zJx (h.s s hs)).2)
 have kd:=zJe b h y' Td hM (zVi km);refine⟨y',Td,hM,km,?_⟩;have hsl:=zA kN b.ss;have hsl2:((cL b.ss b.ss.length).map kN).length=b.ss.length:=by unfold cL;rw[zYq,vG]
 clear km;obtain⟨y,ss⟩:=b;obtain⟨ek,es,ea,en,eb⟩:=e;dsimp only at *;subst hk;unfold sdA at *;generalize Td.map UP=S at *;generalize UP [MZ (y.now+1) y'.vw]=fb at *;unfold cK WB at *;dsimp only at *;rw[show zD kN (cL ss ss.length)= .sl false ((cL ss ss.length).map kN)from rfl];generalize (cL ss ss.length).map kN=X at *;unfold wT;dsimp only;by_cases h0:es<0
 ·(refine eM call15 λF hF=>?_)
  refine xA (vD k1 kd) ?_;refine zI [] rfl rfl ?_ rfl
  show AV.tup [AV.agg [zD wC y'.c.js,zD wN y'.c.ags,iA y'.c.per,iA y'.c.cap,iA y'.c.hold,iA y'.c.lock,bA false,iA y'.now,zD zK y'.ds,zD vF y'.sg,zD vC y'.sv,zD iA y'.st,zD vO y'.vw,.sl false (List.take ss.length X)],AV.agg [zD (zD yA) S,zD yA fb],bA true]=_
  rw[zYy (yAq hsl2)]
 ·(refine eM call15 λF hF=>?_)
  refine xA (vD k1 kd) ?_;refine zI [] rfl rfl ?_ rfl
  show AV.tup [AV.agg [zD wC y'.c.js,zD wN y'.c.ags,iA y'.c.per,iA y'.c.cap,iA y'.c.hold,iA y'.c.lock,bA false,iA y'.now,zD zK y'.ds,zD vF y'.sg,zD vC y'.sv,zD iA y'.st,zD vO y'.vw,.sl false (List.take ss.length X)],AV.agg [zD (zD yA) S,zD yA fb],bA true]=_
  rw[zYy (yAq hsl2)]
end
section
structure DoR where
 b:RR
 S:List (List Int)
 f:List Int
 fl:Bool
structure zTx (b:RR) (e:Ev) (r:DoR):Prop where
 i:BrI r.b
 c:r.b.y.c=b.y.c
 n:b.y.now<=r.b.y.now/\r.b.y.now<=b.y.now+1
 s:e.k=1∨e.k=2∨e.k=3->r=⟨doS b e,[],[],false⟩
 t:r.fl=true->r.S.length=b.ss.length
 f6:r.fl=true->e.k=6
 g:r.fl=false->r.b.y.sg=b.y.sg
 t6:e.k=6->∃(y':Cy) (Td:List (List Ms)),MtP b.y y' (aJ b.ss) Td/\r=⟨⟨y',cL b.ss b.ss.length⟩,Td.map UP,UP [MZ (b.y.now+1) y'.vw],true⟩/\zO 18 [qB b.y,zD kM (aJ b.ss)] [] (.tup [qB y',tdO Td (MZ (b.y.now+1) y'.vw)]) (tdH Td)
 k:zO 15 [cK b,wT e] [] (.tup [cK r.b,sdA r.S r.f,bA r.fl]) []
theorem zWw {e:Ev} (he:BY e.y) {s:Ss} (h:SsI s):SsI (ssF e s):=by
 unfold ssF;split
 ·split
  ·exact h
  ·exact⟨kF,zY4 _⟩
 ·split
  ·exact⟨kF,zY4 _⟩
  ·exact zUb h he
theorem zWx {b:RR} (h:BrI b) {e:Ev} (he:BY e.y):BrI (doS b e):=by
 unfold doS;split
 ·refine⟨h.y,by dsimp only;rw[yAk];exact h.l,λs hs=>?_⟩;rename_i hr;unfold inR at hr;rw[zYx]at hr
  rcases yBy hs with hs|rfl
  ·exact h.s s hs
  ·exact zWw he (h.s _ (zZ b.ss _ zB))
 ·exact h
theorem zWy (b:RR) (h:BrI b) (hn:b.y.now<1000000000) (e:Ev) (he:ZP e):∃r,zTx b e r:=by
 have hk:=he.k;have hyn:=he.n;have hcs:(e.k=1∨e.k=2∨e.k=3)∨(e.k=4∨e.k=5)∨e.k=6:=by omega
 rcases hcs with hk|hk|hk
 ·have k:=zX8 b h e hk he.y zB
  have e1:(doS b e).y=b.y:=by unfold doS;split<;>rfl
  exact⟨⟨doS b e,[],[],false⟩,zWx h he.y,by dsimp only;rw[e1],by dsimp only;rw[e1];omega,λ_=>rfl,λh=>(by cases h),λh=>(by cases h),λ_=>by dsimp only;rw[e1],λh=>zB,k⟩
 ·obtain⟨y',i1,i2,i3,k⟩:=zX9 b h e hk he.y zB;exact⟨⟨⟨y',b.ss⟩,[],[],false⟩,⟨i1,by dsimp only;rw[i2];exact h.l,h.s⟩,i2,by have:=i3.1;dsimp only;omega,λh=>zB,λh=>(by cases h),λh=>(by cases h),λ_=>i3.2,λh=>zB,k⟩
 ·obtain⟨y',Td,hM,km,k⟩:=zYa b h hn e hk;have hll:(aJ b.ss).length=b.ss.length:=by unfold aJ;rw[zYq]
  refine⟨⟨⟨y',cL b.ss b.ss.length⟩,Td.map UP,UP [MZ (b.y.now+1) y'.vw],true⟩,⟨hM.i,?_,λs hs=>?_⟩,hM.c,by have:=hM.n;dsimp only;omega,λh=>zB,λ_=>by dsimp only;rw[zYq,hM.l,hll],λ_=>hk,λh=>(by cases h),λ_=>⟨y',Td,hM,rfl,km⟩,k⟩
  ·dsimp only;rw[hM.c,DQ b h,zYq];exact h.l
  ·dsimp only at hs;rw[DQ b h]at hs;obtain⟨s0,hs0,rfl⟩:=zZ3.1 hs;exact(zJx (h.s s0 hs0)).1
open Classical in
noncomputable def cD (b:RR) (e:Ev):DoR:=if h:∃r,zTx b e r then h.choose else⟨b,[],[],false⟩
theorem WE {b:RR} (h:BrI b) (hn:b.y.now<1000000000) {e:Ev} (he:ZP e):zTx b e (cD b e):=by
 have hx:=zWy b h hn e he;unfold cD;rw[yEo hx];exact hx.choose_spec
noncomputable def fN:RR->List Ev->RR
 |b,[]=>b
 |b,e::l=>fN (cD b e).b l
noncomputable def GM:RR->List Ev->List (List (List Int)×List Int)
 |_,[]=>[]
 |b,e::l=>(if(cD b e).fl=true then [((cD b e).S,(cD b e).f)]else [])++GM (cD b e).b l
theorem zCq (b:RR) (l m:List Ev):fN b (l++m)=fN (fN b l) m:=by
 induction l generalizing b with
 |nil=>rfl
 |cons e l ih=>exact ih _
theorem zO9 (b:RR) (l m:List Ev):GM b (l++m)=GM b l++GM (fN b l) m:=by
 induction l generalizing b with
 |nil=>rfl
 |cons e l ih=>
  show _++GM _ (l++m)=_
  rw[ih,<-zZc];rfl
theorem zCr:∀(l:List Ev) {b:RR},BrI b->(∀e∈l,ZP e)->b.y.now+(l.length:Int)<1000000000->BrI (fN b l)/\(fN b l).y.c=b.y.c/\b.y.now<=(fN b l).y.now/\(fN b l).y.now<=b.y.now+(l.length:Int)/\(GM b l).length<=l.length
 | [],b,h,_,_=>⟨h,rfl,yAu _,by simp[fN],zYs _⟩
 | e::l,b,h,he,hn=>by
  rw[zY2]at hn;have k:=WE h zB (he e zU);have kn:=k.n;obtain⟨i1,i2,i3,i4,i5⟩:=zCr l k.i (λx hx=>he x VX) zB;refine⟨i1,i2.trans k.c,?_,?_,?_⟩
  ·show b.y.now<=(fN (cD b e).b l).y.now
   omega
  ·show(fN (cD b e).b l).y.now<=_
   rw[zY2];omega
  ·show((if(cD b e).fl=true then [((cD b e).S,(cD b e).f)]else [])++GM (cD b e).b l).length<=_
   rw[zYr,zY2];split
   ·simp only[zY2,zZz];omega
   ·simp only[zZz];omega
def sdP (p:List (List Int)×List Int):AV:=sdA p.1 p.2
theorem zWz (c:Cf) (hc:DY c) (l:List Ev) (hl:l.length<=1000000) (he:∀e∈l,ZP e):zO 24 [wJ c,zD wT l] [] (zD sdP (GM (kS c) (l.take 400))) []:=by
 have k1:=zCo c hc;have hb:=DP c hc;have hll:=zA wT l;have h0:(kS c).y.now=0:=rfl;have ht4:(l.take 400).length<=400:=by rw[zY5];omega
 have hm4:∀e∈l.take 400,ZP e:=λe h=>he e (zZ1 h)
 unfold cK WB at k1;refine eM call24 λF hF=>?_
 refine zW k1 ?_
 have tk4:l.take (min ((l.map wT).length:Int) 400).toNat=l.take 400:=by
  rw[zYq];by_cases h:l.length<=400
  ·rw[zYy zB,zYy zB]
  ·congr 1
   omega
 rw[tk4];have hl4:=zA wT (l.take 400);generalize l.take 400=l4 at *;refine xK 6 1001 2 rfl rfl rfl ?_;refine yS (l4) [5,1001] [] [5,18,19] [6,20,5,18,19] rfl (λi pre T U=>⟨(6,.ref 1001 0 ((GM (kS c) pre).map sdP).length)::(20,iA i)::T,(5,.box [zD wC (fN (kS c) pre).y.c.js,zD wN (fN (kS c) pre).y.c.ags,iA (fN (kS c) pre).y.c.per,iA (fN (kS c) pre).y.c.cap,iA (fN (kS c) pre).y.c.hold,iA (fN (kS c) pre).y.c.lock,bA false,iA (fN (kS c) pre).y.now,zD zK (fN (kS c) pre).y.ds,zD vF (fN (kS c) pre).y.sg,zD vC (fN (kS c) pre).y.sv,zD iA (fN (kS c) pre).y.st,zD vO (fN (kS c) pre).y.vw,zD kN (fN (kS c) pre).ss])::(1001,.arr 2 ((GM (kS c) pre).map sdP) true)::U⟩) ?_;(conv=>whnf);refine⟨by rfl,?_,?_⟩
 ·intro i pre x post hx hi;have hy:=xO wT hx hi;have hlt:=yX hx hi;have hpm:∀e∈pre,ZP e:=λe h=>hm4 e (by rw[hx];simp[h])
  have hpl:pre.length<=l4.length:=by rw[hx];simp
  have hxe:=hm4 x (by rw[hx];simp);obtain⟨p1,p2,p3,p4,p5⟩:=zCr pre hb hpm (by rw[h0];omega);have D:=WE p1 zB hxe;have kd:=D.k;have e1:fN (kS c) (pre++[x])=(cD (fN (kS c) pre) x).b:=zCq _ _ _
  have e2:GM (kS c) (pre++[x])=GM (kS c) pre++(if(cD (fN (kS c) pre) x).fl=true then [((cD (fN (kS c) pre) x).S,(cD (fN (kS c) pre) x).f)]else []):=by
   rw[zO9]
   congr 1
   show _++[]=_
   rw[zZo]
  rw[e1,e2,zYz];have hsm:=zA sdP (GM (kS c) pre);clear D e1 e2 hx hpm;generalize (GM (kS c) pre).map sdP=X at *;unfold cK WB wT sdA at kd;unfold wT at hy;generalize cD (fN (kS c) pre) x=r at *;generalize fN (kS c) pre=b0 at *;obtain⟨rb,S,f,fl⟩:=r;dsimp only at *;cases fl
  ·rw[zYo zZb,yA5,zZo];refine zW kd ?_;rfl
  ·rw[zYp rfl,show [(S,f)].map sdP=[.agg [zD (zD yA) S,zD yA f]]from rfl];refine zW kd ?_;rfl
 ·(refine WW ?_)
  exact zI [] rfl rfl (zZl (AV.sl false) zYv) rfl
end
theorem zTy {m:Ms} (h:RE m):BY (IZ m):=by
 have hs:=(WH h.2).choose_spec;have e:IZ m=frF m.kind (WH h.2).choose:=by unfold IZ;rw[yEo h]
 rw[e];generalize (WH h.2).choose=p at *;obtain⟨h1,h2,_⟩:=hs;have hk:=h.2.kk;have h3:=h2.1;intro x hx;simp only[frF,aL,be4,yBd,yA9,zZ5,zZa,zZ3]at hx
 rcases hx with rfl|rfl|rfl|rfl|rfl|rfl|hx|⟨i,_,rfl⟩
 ·omega
 ·omega
 ·omega
 ·omega
 ·omega
 ·omega
 ·exact h1.1 x hx
 ·exact zKq _
theorem zJn:∀{l:List Ms},(∀m∈l,RE m)->BY (UP l)
 | [],_=>kF
 |m::l,h=>λx hx=>by
  have e:UP (m::l)=IZ m++UP l:=rfl;rw[e]at hx
  rcases zZa.1 hx with hx|hx
  ·exact zTy (h m zU) x hx
  ·exact zJn (λm hm=>h m (by simp[hm])) x hx
theorem zJo:∀(l:List Ev) {b:RR},BrI b->(∀e∈l,ZP e)->b.y.now+(l.length:Int)<1000000000->∀p∈GM b l,p.1.length=b.ss.length/\∀x∈p.1,BY x/\x.length<=400000
 | [],b,_,_,_,p,hp=>by cases hp
 | e::l,b,h,he,hn,p,hp=>by
  rw[zY2]at hn;have k:=WE h zB (he e zU);have kn:=k.n;have hl:((cD b e).b.ss.length:Int)=b.ss.length:=by rw[k.i.l,h.l,k.c]
  have ih:=zJo l k.i (λx hx=>he x VX) zB;have hp:p∈(if(cD b e).fl=true then [((cD b e).S,(cD b e).f)]else [])++GM (cD b e).b l:=hp
  rcases zZa.1 hp with hp|hp
  ·by_cases hf:(cD b e).fl=true
   ·rw[zYp hf]at hp;obtain rfl:=zZu.1 hp;refine⟨k.t hf,λx hx=>?_⟩;obtain⟨y',Td,hM,h3,_⟩:=k.t6 (k.f6 hf);have eS:(cD b e).S=Td.map UP:=by rw[h3]
    rw[eS]at hx;obtain⟨z,hz,rfl⟩:=zZ3.1 hx;obtain⟨v1,v2⟩:=hM.v z hz;have:=HA v2;exact⟨zJn v2,zB⟩
   ·rw[zYo hf]at hp;cases hp
  ·obtain⟨i1,i2⟩:=ih p hp;exact⟨zB,i2⟩
end Av
end Go.Proofs.YtmamjhmoegjapaaGreat
