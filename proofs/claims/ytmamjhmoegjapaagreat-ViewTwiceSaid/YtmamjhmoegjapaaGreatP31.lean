/- Part 31. -/
import Derived.Test.YtmamjhmoegjapaaGreatP30
namespace Go.Proofs.YtmamjhmoegjapaaGreat
namespace Av
open Tryz
set_option linter.all false
set_option maxRecDepth 4000
set_option maxHeartbeats 8000000
def owP (ins:List In) (b k:Nat):List In:=(List.range k).map λj=>ins.getD (b+j) default
theorem zL2 (ins:List In) (b k:Nat):owP ins b (k+1)=owP ins b k++[ins.getD (b+k) default]:=by simp[owP,yBa]
def owI (c:Cf) (ins:List In) (a:Nat):List In:=owP ins (gJ c.ags a).toNat (c.ags.getD a default).ses.toNat
def rpA (r:DR):AV:=zD aO r.R
def bgL (now:Int) (ds:List xQ) (i:Nat):List xQ:=ZU (λ_ d=>PA d now) ds i
def RV (now:Int) (ds:List xQ) (rF:Nat->DR) (i:Nat):List xQ:=(List.range ds.length).map λk=>if k<i then(rF k).d else PA (ds.getD k default) now
def rpL (n:Nat) (rF:Nat->DR) (i:Nat):List AV:=(List.range n).map λk=>if k<i then rpA (rF k)else .s (.slice none 0 0)
def ME (rF:Nat->DR) (i:Nat):List En:=((List.range i).map λk=>(rF k).en).flatten
def TF (rF:Nat->DR) (i:Nat):List Int:=((List.range i).map λk=>(rF k).ks).flatten
theorem BD (rF:Nat->DR) (i:Nat):ME rF (i+1)=ME rF i++(rF i).en:=by simp[ME,yBa]
theorem BE (rF:Nat->DR) (i:Nat):TF rF (i+1)=TF rF i++(rF i).ks:=by simp[TF,yBa]
theorem GE {rF:Nat->DR} (h:∀i,(rF i).en.length<=2000):∀i,(ME rF i).length<=2000*i
 |0=>zY4 _
 |i+1=>by
  have:=GE h i;have:=h i;rw[BD,zYr];omega
theorem GF {rF:Nat->DR} (h:∀i,(rF i).ks.length<=2000):∀i,(TF rF i).length<=2000*i
 |0=>zY4 _
 |i+1=>by
  have:=GF h i;have:=h i;rw[BE,zYr];omega
theorem eP {α:Type} (n i:Nat) (f g:Nat->α) (hi:i<n):((List.range n).map λk=>if k<i+1 then f k else g k)=((List.range n).map λk=>if k<i then f k else g k).set i (f i):=by
 apply zZ9;intro j;rw[yAx,zYt,zYt,zYq,yAe];by_cases hj:j<n
 ·rw[zZr hj];by_cases h:i=j
  ·subst h;rw[zYp rfl,zYp hi];simp
  ·rw[zYo h];by_cases h2:j<i
   ·simp[h2,show j<i+1 by omega]
   ·simp[h2,show¬j<i+1 by omega]
 ·rw[zZj wI];by_cases h:i=j
  ·omega
  ·simp[h]
theorem bD {α:Type} (n i:Nat) (f g:Nat->α) (hi:i<n):((List.range n).map λk=>if k<i then f k else g k)[i]? =some (g i):=by
 rw[zYt,zZr hi];simp
theorem eQ {α:Type} (n:Nat) (f g:Nat->α):((List.range n).map λk=>if k<n then f k else g k)=(List.range n).map f:=by
 apply yB7;intro k hk;rw[zYp (zZi.1 hk)]
theorem BF {l:List Ag} (h:MB l) {i j:Nat} (hij:i<=j) (hj:j<=l.length):gJ l i<=gJ l j:=by
 induction j with
 |zero=>rw[show i=0 by omega];exact yAu _
 | succ j ih=>
  by_cases h1:i=j+1
  ·rw[h1];exact yAu _
  ·have h2:=ih zB zB;have h3:=h.at (i:=j) zB
   show gJ l i<=gJ l j+(l.getD j default).ses
   omega
theorem zFp (c:Cf) (hw:MB c.ags) (now:Int) (n0:0<=now) (n1:now<=1073741824) (ds:List xQ) (hdl:ds.length=c.ags.length) (hI:∀i,i<ds.length->uW c (ds.getD i default)) (ins:List In) (hil:(ins.length:Int)=gJ c.ags c.ags.length)
  (rF:Nat->DR) (hen:∀i,(rF i).en.length<=2000) (hks:∀i,(rF i).ks.length<=2000) (hr:∀i,i<ds.length->zO 110 [wJ c,zK (PA (ds.getD i default) now),zD kM (owI c ins i),iA now] [] (drT (rF i)) [])
  (A B C:List AV) (a2 a3 a4:Nat) (vw:List Vw):
  zO 62 [YV c false now (.ref 1011 0 (ds.map zK).length) (.ref 1012 0 a2) (.ref 1013 0 a3) (.ref 1014 0 a4) (zD vO vw),zD kM ins] [(1011,.arr 17 (ds.map zK) false),(1012,.arr 5 A false),(1013,.arr 3 B false),(1014,.arr 1 C false)]
   (.tup [.sl false ((List.range ds.length).map λk=>rpA (rF k)),zD gF (ME rF ds.length),zD iA (TF rF ds.length)]) [(1011,.arr 17 ((RV now ds rF ds.length).map zK) false),(1012,.arr 5 A false),(1013,.arr 3 B false),(1014,.arr 1 C false)]:=by
 have hdm:=zA zK ds;have hal:=zA wN c.ags;have hn4:=hw.1;have hbl:∀i,(bgL now ds i).length=ds.length:=λi=>vG _ _ _
 have hbm:∀i,((bgL now ds i).map zK).length=ds.length:=λi=>by rw[zYq,hbl]
 have hb0:bgL now ds 0=ds:=jE _ _;unfold YV;refine eM call62 λF hF=>?_
 refine WW ?_;refine zP (ds.length) [1011,2,3,1012,1013,1014] [2,3,1012,1013,1014] [2,3,21,57] [22,2,3,21,57] rfl (λi T U=>⟨(22,iA i)::T,(1011,.arr 17 ((bgL now ds i).map zK) false)::U⟩) ?_;(conv=>whnf);refine⟨by(rw[hb0];rfl),?_,?_⟩
 ·intro i hi
  have hy:((bgL now ds i).map zK)[i]? =some (zK (ds.getD i default)):=by
   rw[zYt];unfold bgL;rw[uV,zYp hi,zYo (yCo i)];rfl
  have e:(bgL now ds (i+1)).map zK=((bgL now ds i).map zK).set i (zK (PA (ds.getD i default) now)):=by unfold bgL;rw[qC _ _ _ _ hi]
  have kb:=GY (hI i hi) now;have hxl:=hbm i;rw[e];clear e hr hI hb0;generalize PA (ds.getD i default) now=d2 at *;generalize ds.getD i default=d1 at *;generalize (bgL now ds i).map zK=X at *;refine zW kb ?_;rfl
 ·have hbn:(bgL now ds ds.length).map zK=(RV now ds rF 0).map zK:=by
   congr 1
   unfold RV;apply zZ9;intro j;unfold bgL;rw[uV,zYt];by_cases hj:j<ds.length
   ·rw[zYp hj,zYp hj,zZr hj];simp
   ·rw[zYo hj,zZj wI];rfl
  rw[hbn];refine WW ?_;have hmin:min (ds.length:Int) (c.ags.length:Int)=(ds.length:Int):=by rw[hdl];exact yEr _
  rw[hdm,hal,hmin]
  have hr0:rpL ds.length rF 0=List.replicate ds.length (.s (.slice none 0 0)):=by
   unfold rpL;apply zZ9;intro j;rw[zYt,yAm];by_cases hj:j<ds.length
   ·rw[zZr hj,zYp hj];simp
   ·rw[zYo hj,zZj wI];rfl
  have hrl:∀i,(rpL ds.length rF i).length=ds.length:=λi=>by unfold rpL;rw[zYq,yAe]
  have htl:∀i,((RV now ds rF i).map zK).length=ds.length:=λi=>by unfold RV;rw[zYq,zYq,yAe]
  refine xK 9 1042 3 rfl rfl rfl ?_;refine xK 10 1043 1 rfl rfl rfl ?_;refine zP (ds.length) [41,1011,1042,1043,2,3,1012,1013,1014] [2,3,1012,1013,1014] [2,3,8,49,57] [9,10,50,2,3,8,49,57] rfl (λi T U=>⟨(9,.ref 1042 0 ((ME rF i).map gF).length)::(10,.ref 1043 0 ((TF rF i).map iA).length)::(50,iA i)::T,(41,.arr 1 (rpL ds.length rF i) false)::(1011,.arr 17 ((RV now ds rF i).map zK) false)::(1042,.arr 3 ((ME rF i).map gF) true)::(1043,.arr 1 ((TF rF i).map iA) true)::U⟩) ?_;(conv=>whnf);refine⟨by(rw[hr0];rfl),?_,?_⟩
  ·intro i hi;have hic:i<c.ags.length:=by omega
   have hy:((RV now ds rF i).map zK)[i]? =some (zK (PA (ds.getD i default) now)):=by
    rw[zYt];unfold RV;rw[bD _ _ _ _ hi];rfl
   have e1:(RV now ds rF (i+1)).map zK=((RV now ds rF i).map zK).set i (zK (rF i).d):=by
    unfold RV;rw[eP _ _ _ _ hi,yAw]
   have e2:rpL ds.length rF (i+1)=(rpL ds.length rF i).set i (rpA (rF i)):=by
    unfold rpL;rw[eP _ _ _ _ hi]
   have hyr:(rpL ds.length rF i)[i]? =some (.s (.slice none 0 0)):=by
    unfold rpL;exact bD _ _ _ _ hi
   have hxl:=htl i;have hrll:=hrl i;have hel:=GE hen i;have hkl:=GF hks i;have hel1:=hen i;have hkl1:=hks i;have hem:=zA gF (ME rF i);have hkm:=zA iA (TF rF i);have hem1:=zA gF (rF i).en;have hkm1:=zA iA (rF i).ks;have ks:=zC4 c i;have kd:=hr i hi;have ht:=zJ5 c hw i hic;rw[e1,e2,BD,BE,zYz,zYz];clear e1 e2 hr hI hb0 hr0 hbn;unfold drT tkT at kd
   change zO 110 [_,_,_,_] [] (.tup [_,rpA (rF i),_,_]) []at kd
   generalize PA (ds.getD i default) now=D1 at *;generalize (rF i).d=D2 at *;rw[show rpA (rF i)= .sl false ((rF i).R.map aO)from rfl]at *; generalize (rF i).R.map aO=R2 at *;generalize (RV now ds rF i).map zK=X at *;generalize rpL ds.length rF i=Y at *;generalize (ME rF i).map gF=En1 at *;generalize (TF rF i).map iA=Ks1 at *;rw[show zD gF (rF i).en= .sl false ((rF i).en.map gF)from rfl,show zD iA (rF i).ks= .sl false ((rF i).ks.map iA)from rfl]at kd;unfold zD at kd;unfold zK wH at hy kd⊢;unfold zFg at ks ht;unfold wJ at ks kd;refine zW ks ?_;obtain⟨bs,hbs⟩:∃bs:Nat,gJ c.ags i=(bs:Int):=⟨(gJ c.ags i).toNat,by have:=jR hw i zB;omega⟩;obtain⟨N,hN⟩:∃N:Nat,(c.ags.getD i default).ses=(N:Int):=⟨(c.ags.getD i default).ses.toNat,by have:=hw.at (i:=i) zB;omega⟩
   have hbd:bs+N<=ins.length:=by
    have:=BF hw (show i+1<=c.ags.length by omega) (zYs _);have h2:gJ c.ags (i+1)=gJ c.ags i+(c.ags.getD i default).ses:=rfl;omega
   have hN2:=hw.at (i:=i) zB;have hL:HN c i=(List.range N).map λk=>[plA i k (bs+k)]:=by unfold HN;rw[hbs,hN];rfl
   rw[show owI c ins i=owP ins bs N by unfold owI;rw[hbs,hN];rfl]at kd;rw[hN]at hN2;have hil2:=zA kM ins;refine vW 12 0 1041 2 rfl rfl rfl rfl rfl ?_
   refine wW hF ht rfl [2,3,12,41,1011,1012,1013,1014,1041,1042,1043] [2,3,8,9,10,11,12,49,50] rfl rfl rfl rfl rfl rfl rfl rfl rfl (λk ys h=>?_) (λk=>[(2,.box [zD wC c.js,zD wN c.ags,iA c.per,iA c.cap,iA c.hold,iA c.lock,bA false,iA now,.ref 1011 0 ds.length,.ref 1012 0 a2,.ref 1013 0 a3,.ref 1014 0 a4,zD vO vw]),(3,.box [zD kM ins]),(12,.box [.ref 1041 0 ((owP ins bs k).map kM).length]),(41,.arr 1 Y false),(1011,.arr 17 X false),(1012,.arr 5 A false),(1013,.arr 3 B false),(1014,.arr 1 C false),(1041,.arr 2 ((owP ins bs k).map kM) true),(1042,.arr 3 En1 true),(1043,.arr 1 Ks1 true)]) (λ_=>True)
    (T:=[(2,.ptr 2 0 0),(3,.ptr 3 0 0),(8,.ref 41 0 ds.length),(9,.ref 1042 0 En1.length),(10,.ref 1043 0 Ks1.length),(11,iA i),(12,.ptr 12 0 0),(49,iA ds.length),(50,iA i)]) rfl trivial (λk ys y hys hI F1 h1 h2=>?_) (λhI=>?_)
   ·rw[hL,zYt,zY1]at h;obtain⟨x,_,rfl⟩:=h;rfl
   ·have hk:k<N:=by
     have:=(zZg.1 hys).1;rw[hL,zYq,yAe]at this;exact this
    rw[hL,zYt,zZr hk]at hys;obtain rfl:=yA2 hys;have hyi:=zN kM ins (bs+k) zB;have hol:((owP ins bs k).map kM).length=k:=by unfold owP;rw[zYq,zYq,yAe]
    rw[zL2,zYz];generalize (owP ins bs k).map kM=O at *;generalize ins.getD (bs+k) default=x at *;rw[show [x].map kM=[.agg [bA x.opn,zD vB x.its]]from rfl];unfold kM at hyi;refine WW ?_;refine⟨rfl,λF2 g1 g2=>?_⟩;refine WW ?_;exact⟨rfl,trivial⟩
   ·rw[show(HN c i).length=N by rw[hL,zYq,yAe]];generalize owP ins bs N=O at*
    show uI _ _ _ _ ⟨_,_⟩ _
    refine uQ [2,3,12,41,1011,1012,1013,1014,1042,1043] [2,3,8,9,10,11,12,49,50] rfl ?_
    (conv=>whnf)
    simp only[zZv,zYv];clear ks ht hL hN hN2;refine zW kd ?_;rfl
  ·rw[rpL,eQ];refine WW ?_;refine zI [1011,1012,1013,1014] rfl rfl ?_ rfl
   show AV.tup [.sl false (List.take ds.length (List.map (λk=>rpA (rF k)) (List.range ds.length))),.sl false (List.take ((ME rF ds.length).map gF).length ((ME rF ds.length).map gF)),.sl false (List.take ((TF rF ds.length).map iA).length ((TF rF ds.length).map iA))]=_
   rw[zYy (by rw[zYq,yAe];exact zYs _),zYv,zYv];rfl
structure JI (j:Jn) (s:Sg) (v:Sv) (now:Int):Prop where
 c:CV j s.c
 n:v.en.length=j.ph.length
 e:∀e∈v.en,-1<=e/\e<=now
 g:0<=v.gr
theorem zL3 (g:Cf) (s:Sv) (l:List Cl) (now:Int) (h:0<=s.gr):0<=(kT g s l now).gr:=by
 unfold kT;split
 ·exact yAu _
 ·unfold eJ;split
  ·exact yAu _
  ·exact h
theorem zYn {j:Jn} (J:JV j) {s:Sg} {v:Sv} {now:Int} (n0:0<=now) (H:JI j s v now) (g:Cf) (l:List Cl) (k:Int):JI j (dvF g j s v l k now).1 (dvF g j s v l k now).2 now:=by
 refine⟨zW9 J H.c g v l k now,?_,?_,?_⟩
 ·unfold dvF;split
  ·exact(SI _ _).trans H.n
  ·split
   ·exact(SI _ _).trans ((UQ ..).trans H.n)
   ·dsimp only;unfold dU;split
    ·exact(UQ ..).trans H.n
    ·exact(UQ ..).trans H.n
 ·have hd:=zKk g v l now n0 H.e;unfold dvF;split
  ·exact NQ _ _ n0 H.e
  ·split
   ·exact NQ _ _ n0 hd
   ·dsimp only;unfold dU;split
    ·exact hd
    ·exact hd
 ·have hd:=zL3 g v l now H.g;unfold dvF;split
  ·exact yAu _
  ·split
   ·exact yAu _
   ·dsimp only;unfold dU;split
    ·dsimp only;omega
    ·exact hd
theorem zL4:∀(l pre:List Lg),fX pre l=true->∀g∈l,JT g=true
 | [],_,_,g,hg=>by cases hg
 |x::l,pre,h,g,hg=>by
  unfold fX at h;simp only[zY6]at h
  rcases zZ5.1 hg with rfl|hg
  ·exact h.1
  ·exact zL4 l _ h.2.2 g hg
theorem zL5 {P:Program} {st:St} {T1 T2 T3:Nat} {x y z:Operand} {k:IntKind} {m n l:Int} (hx:yO (zG st.tm) x= .s (.int k m)) (hy:yO (zG st.tm) y= .s (.int k n)) (hz:yO (zG st.tm) z= .s (.int k l)):wR P st (.call ⟨.builtin .min, #[x,y,z], #[T1,T2,T3]⟩) (.s (.int k (min (min m n) l))) [] [] []:=
 yR λoo X tm h w β a ho hg hr HH Ht=>by
  obtain⟨dst,op',type,pos,after,guard⟩:=oo;dsimp only at ho;subst ho;have h1:=vN Ht hg (x:=x) qH hx;have h2:=vN Ht hg (x:=y) qH hy;have h3:=vN Ht hg (x:=z) qH hz;refine⟨.int k (min (min m n) l),?_,.fz _ _ (.s _)⟩;have e1:(if n<m then n else m)=min m n:=by omega
  have e2:(if l<min m n then l else min m n)=min (min m n) l:=by omega
  simp[execOp,resolve,invoke,builtin,Builtin.min_,Builtin.min2,h1,h2,h3,e1,e2]
theorem zL6 {P:Program} {st:St} {op:Op} {v:AV} {d:List (Nat×xP)} {r nw:List Nat} (hs:wR P st op v d r nw) (hr:(yC d).all (r.contains ·)=true) (he:(yC d).map (zC st.h)=(yC d).map (zC d)):wR P st op v [] r nw:=
 ⟨λX tm h hg hh hn=>by
  have h1:=hs.run X tm h hg hh hn
  have e:over d h=over [] h:=funext λk=>by
   unfold over
   cases hk:zC d k with
   |none=>rfl
   |some e=>
    have hm:=vJ hk;obtain⟨i,hi⟩:=yB0 hm;have e1:=zZl (·[i]?) he;have e2:zC st.h k=zC d k:=by simpa [hi]using e1
    have e3:=hh k (by have:=zY3.1 hr k hm;simpa using this)
    show some e=h k
    rw[e3,e2,hk]
  rwa [e]at h1⟩
theorem zL7 {ag j:Int} {x:Rq} {c:Cl} (h:c∈DZ ag j x) (hx:RqO x) {now:Int} (n0:0<=now) (hs:∀g∈x.legs,g.sc<=now):(0<=c.k/\c.k<=3)/\(0<=c.si/\c.si<=now):=by
 unfold DZ at h;split at h
 ·cases h
 ·split at h
  ·cases h
  ·rename_i h1;rw[zZu]at h;subst h;dsimp only;refine⟨⟨hx.c0,hx.c1⟩,?_⟩;by_cases hi:(TA (λr:Lg=>r.jn==j) x.legs).toNat<x.legs.length
   ·have hm:=zZ x.legs _ hi;have hl:=hx.lg;unfold vgF at hl;rw[zY6]at hl;have:=hs _ hm;have hv:=zL4 _ _ hl.2 _ hm;generalize x.legs.getD (TA (λr:Lg=>r.jn==j) x.legs).toNat default=g at *;unfold JT at hv;rw[zYx]at hv;omega
   ·rw[zY0,zZj zB]
    show(0:Int)<=0/\(0:Int)<=now
    omega
theorem zL8 {c:Cf} {j:Int} {ds:List xQ} (hI:∀d∈ds,uW c d) {now:Int} (n0:0<=now) (hs:∀d∈ds,MA now d.rq):∀x∈dM j ds,(0<=x.k/\x.k<=3)/\(0<=x.si/\x.si<=now):=λx hx=>by
 unfold dM at hx;obtain⟨y,hy,hx⟩:=yCc.1 hx;obtain⟨d,hd,rfl⟩:=zZ3.1 hy;unfold bC at hx;obtain⟨y,hy,hx⟩:=yCc.1 hx;obtain⟨r,hr,rfl⟩:=zZ3.1 hy;exact zL7 hx ((hI d hd).v.ok r hr) n0 (hs d hd r hr)
theorem KS (j:Int):∀l:List xQ,(∀d∈l,d.rq.length<=4)->(dM j l).length<=4*l.length
 | [],_=>zYs _
 |d::l,h=>by
  have h1:=ZJ d.rg.num j d.rq;have h2:=KS j l (λx hx=>h x VX);have h3:=h d zU;have e:dM j (d::l)=bC d.rg.num j d.rq++dM j l:=rfl;rw[e,zYr,zY2];omega
def ZT (c:Cf) (sg:List Sg) (sv:List Sv) (st:List Int) (ds:List xQ) (now:Int) (k:Nat):Sg×Sv:=dvF c (c.js.getD k default) (sg.getD k default) (sv.getD k default) (dM (k:Int) ds) (st.getD k default) now
def MF (D:Nat->Sg×Sv) (l:List Sg) (i:Nat):List Sg:=ZU (λk _=>(D k).1) l i
def MG (D:Nat->Sg×Sv) (l:List Sv) (i:Nat):List Sv:=ZU (λk _=>(D k).2) l i
def GG (l:List Int) (i:Nat):List Int:=ZU (λ_ _=> -1) l i
def stW (js:List Jn) (D:Nat->Sg×Sv) (n i:Nat):List AV:=(List.range n).map λk=>if k<i then vO (CI (js.getD k default) (D k).1 (D k).2)else .agg [bA false,bA false,.s (.slice none 0 0),.s (.slice none 0 0)]
def stH (c:Cf) (now:Int) (ds:List xQ) (v:AV) (sg:List Sg) (sv:List Sv) (st:List Int):List (Nat×xP):=
 [(2,.box [zD wC c.js,zD wN c.ags,iA c.per,iA c.cap,iA c.hold,iA c.lock,bA false,iA now,zD zK ds,.ref 1012 0 (sg.map vF).length,.ref 1013 0 (sv.map vC).length,.ref 1014 0 (st.map iA).length,v]),(1012,.arr 5 (sg.map vF) false),(1013,.arr 3 (sv.map vC) false),(1014,.arr 1 (st.map iA) false)]
theorem zL9 (c:Cf) (hv:DY c) (now:Int) (n0:0<=now) (n1:now<=1000000000) (ds:List xQ) (hd4:ds.length<=4) (hI:∀d∈ds,uW c d) (hs:∀d∈ds,MA now d.rq) (sg:List Sg) (sv:List Sv) (st:List Int) (vw:List Vw)
  (hg:sg.length=c.js.length) (hsv:sv.length=c.js.length) (hst:st.length=c.js.length) (hj:∀k,k<c.js.length->JI (c.js.getD k default) (sg.getD k default) (sv.getD k default) now):
  zO 64 [.ptr 2 0 0] (stH c now ds (zD vO vw) sg sv st) (.tup [])
   (stH c now ds (.ref 1015 0 c.js.length) (MF (ZT c sg sv st ds now) sg c.js.length) (MG (ZT c sg sv st ds now) sv c.js.length) (GG st c.js.length)++[(1015,.arr 4 (stW c.js (ZT c sg sv st ds now) c.js.length c.js.length) false)]):=by
 have hjl:=zA wC c.js;have hgl:=zA vF sg;have hvl:=zA vC sv;have htl:=zA iA st;have hj4:=hv.j;unfold stH;refine eM call64 λF hF=>?_
 (repeat' (first|refine qS ?_|refine xR (λhc=>?_) (λhc=>?_)|refine wE (λhc=>?_)|(refine zE ?_;first|(refine zE ?_;refine yF (zL5 rfl rfl rfl) rfl ?_)|(refine gT ?_;refine cI 1015 tok rfl rfl rfl rfl rfl rfl rfl rfl rfl rfl rfl rfl rfl zB zB rfl rfl rfl ?_))|fail))
 rw[hjl,hgl,hvl,hg,hsv,yEr,yEr]
 (repeat' (first|refine qS ?_|refine xR (λhc=>?_) (λhc=>?_)|refine wE (λhc=>?_)|(refine zE ?_;first|(refine gT ?_;refine cI 1015 tok rfl rfl rfl rfl rfl rfl rfl rfl rfl rfl rfl rfl rfl zB zB rfl rfl rfl ?_))|fail))
 have hw0:∀D,stW c.js D c.js.length 0=List.replicate c.js.length (.agg [bA false,bA false,.s (.slice none 0 0),.s (.slice none 0 0)]):=λD=>by
  unfold stW;apply zZ9;intro j;rw[zYt,yAm];by_cases hj:j<c.js.length
  ·rw[zZr hj,zYp hj];simp
  ·rw[zYo hj,zZj wI];rfl
 have hC:=KS;have hG0:∀D,MF D sg 0=sg:=λD=>jE _ _
 have hV0:∀D,MG D sv 0=sv:=λD=>jE _ _
 have hK0:GG st 0=st:=jE _ _;have hgn:∀D i,((MF D sg i).map vF).length=c.js.length:=λD i=>by unfold MF;rw[zYq,vG,hg]
 have hvn:∀D i,((MG D sv i).map vC).length=c.js.length:=λD i=>by unfold MG;rw[zYq,vG,hsv]
 have hkn:∀i,((GG st i).map iA).length=c.js.length:=λi=>by unfold GG;rw[zYq,vG,hst]
 have hwn:∀D i,(stW c.js D c.js.length i).length=c.js.length:=λD i=>by unfold stW;rw[zYq,yAe]
 rw[htl,hst,hgn,hvn,hkn];refine zP (c.js.length) [1012,1013,1014,1015,2] [2] [0,28] [29,0,28] rfl (λi T U=>⟨(29,iA i)::T,(1012,.arr 5 ((MF (ZT c sg sv st ds now) sg i).map vF) false)::(1013,.arr 3 ((MG (ZT c sg sv st ds now) sv i).map vC) false)::(1014,.arr 1 ((GG st i).map iA) false)::(1015,.arr 4 (stW c.js (ZT c sg sv st ds now) c.js.length i) false)::U⟩) ?_;(conv=>whnf);refine⟨by(rw[hG0,hV0,hK0,hw0];rfl),?_,?_⟩
 ·intro i hi;have hyj:=zN wC c.js i hi;have hyg:((MF (ZT c sg sv st ds now) sg i).map vF)[i]? =some (vF (sg.getD i default)):=by rw[zYt];unfold MF;rw[uV,zYp zB,zYo (yCo i)];rfl
  have hyv:((MG (ZT c sg sv st ds now) sv i).map vC)[i]? =some (vC (sv.getD i default)):=by rw[zYt];unfold MG;rw[uV,zYp zB,zYo (yCo i)];rfl
  have hyk:((GG st i).map iA)[i]? =some (iA (st.getD i default)):=by rw[zYt];unfold GG;rw[uV,zYp zB,zYo (yCo i)];rfl
  have hyw:(stW c.js (ZT c sg sv st ds now) c.js.length i)[i]? =some (.agg [bA false,bA false,.s (.slice none 0 0),.s (.slice none 0 0)]):=bD _ _ _ _ hi;have eg:(MF (ZT c sg sv st ds now) sg (i+1)).map vF=((MF (ZT c sg sv st ds now) sg i).map vF).set i (vF (ZT c sg sv st ds now i).1):=by unfold MF;rw[qC _ _ _ _ zB]
  have ev:(MG (ZT c sg sv st ds now) sv (i+1)).map vC=((MG (ZT c sg sv st ds now) sv i).map vC).set i (vC (ZT c sg sv st ds now i).2):=by unfold MG;rw[qC _ _ _ _ zB]
  have ek:(GG st (i+1)).map iA=((GG st i).map iA).set i (iA (-1)):=by unfold GG;rw[qC _ _ _ _ zB]
  have ew:stW c.js (ZT c sg sv st ds now) c.js.length (i+1)=(stW c.js (ZT c sg sv st ds now) c.js.length i).set i (vO (CI (c.js.getD i default) (ZT c sg sv st ds now i).1 (ZT c sg sv st ds now i).2)):=eP _ _ _ _ hi;have J:=hv.jv _ (zZ c.js i hi);have H:=hj i hi;have cl:(dM (i:Int) ds).length<=4*ds.length:=hC i ds λd hd=>(hI d hd).v.n4
  have cm:=zL8 (j:=(i:Int)) hI n0 hs;have hp:=hv.p;have hcp:=hv.cp;have hJn:=J.n;have hHn:=H.n;have HD:DcB c (sv.getD i default) (dM (i:Int) ds) now:=⟨hp.1,zB,zB,n0,n1,H.e,λx hx=>(cm x hx).1,λx hx=>(cm x hx).2,zB,zB⟩
  have kd:zO 112 [wJ c,wC (c.js.getD i default),vF (sg.getD i default),vC (sv.getD i default),zD dR (dM (i:Int) ds),iA (st.getD i default),iA now] [] (.tup [vF (ZT c sg sv st ds now i).1,vC (ZT c sg sv st ds now i).2]) []:=
   zPr c _ J _ H.c _ _ _ now HD (by have:=zL3 c (sv.getD i default) (dM (i:Int) ds) now H.g;omega)
  have ko:=zKp (c.js.getD i default) J (ZT c sg sv st ds now i).1 (zW9 J H.c _ _ _ _ _) (ZT c sg sv st ds now i).2;have kc:=zFf c false now ds i zB (λd hd=>(hI d hd).bd) ((MF (ZT c sg sv st ds now) sg i).map vF) ((MG (ZT c sg sv st ds now) sv i).map vC) (((GG st i).map iA).set i (iA (-1))) (stW c.js (ZT c sg sv st ds now) c.js.length i) c.js.length c.js.length c.js.length c.js.length;have hgl':=hgn (ZT c sg sv st ds now) i;have hvl':=hvn (ZT c sg sv st ds now) i;have hkl':=hkn i;have hwl':=hwn (ZT c sg sv st ds now) i;rw[eg,ev,ek,ew];clear eg ev ek ew hG0 hV0 hK0 hw0 HD cm hC hgn hvn hkn hwn hj H J;generalize (MF (ZT c sg sv st ds now) sg i).map vF=X at *;generalize (MG (ZT c sg sv st ds now) sv i).map vC=Y at *;generalize (GG st i).map iA=Z at *;generalize stW c.js (ZT c sg sv st ds now) c.js.length i=W at *;generalize ZT c sg sv st ds now i=p at *;generalize CI (c.js.getD i default) p.1 p.2=w at *;generalize dM (i:Int) ds=l at *;generalize sg.getD i default=s at *;generalize sv.getD i default=v at *;generalize st.getD i default=k at *;generalize c.js.getD i default=j at *;have hx1:(X.set i (vF p.1))[i]? =some (vF p.1):=yAg zB;have hx2:(Y.set i (vC p.2))[i]? =some (vC p.2):=yAg zB
  (have zc1:=kd;have zc2:=ko;(repeat' (first|refine qS ?_|refine xR (λhc=>?_) (λhc=>?_)|refine wE (λhc=>?_)|(refine zE ?_;first|(refine vT 113 ?_;refine yF (zL6 (zH kc rfl rfl rfl rfl rfl) rfl rfl) rfl ?_))|fail))<;>clear zc1 zc2)
  rfl
 ·(refine WW ?_)
  exact jJ [2,1012,1013,1014,1015] rfl rfl rfl rfl
structure CyI (y:Cy):Prop where
 v:DY y.c
 rf:y.rf=false
 n0:0<=y.now
 dl:y.ds.length=y.c.ags.length
 di:∀d∈y.ds,uW y.c d
 dg:∀a,a<y.ds.length->(y.ds.getD a default).rg.ag=y.c.ags.getD a default
 sc:∀d∈y.ds,MA y.now d.rq
 gl:y.sg.length=y.c.js.length
 sl:y.sv.length=y.c.js.length
 tl:y.st.length=y.c.js.length
 wl:y.vw.length=y.c.js.length
 wb:∀w∈y.vw,BT w
 j:∀k,k<y.c.js.length->JI (y.c.js.getD k default) (y.sg.getD k default) (y.sv.getD k default) y.now
theorem NU {α:Type} [Inhabited α] {l:List α} {x:α} (h:x∈l):∃i,i<l.length/\l.getD i default=x:=by
 obtain⟨i,hi,e⟩:=yCq.1 h;exact⟨i,hi,by rw[zY0,zZd hi];exact e⟩
theorem CyI.b {y:Cy} (h:CyI y):CyB y:=by
 have ha:=h.v.a;have hj:=h.v.j;have h1:=h.dl;have h2:=h.gl;have h3:=h.sl;have h4:=h.tl;have h5:=h.wl;refine⟨zB,λd hd=>(h.di d hd).bd,zB,λs hs=>?_,zB,λs hs=>?_,zB,zB,λw hw=>?_⟩
 ·obtain⟨i,hi,rfl⟩:=NU hs;have J:=h.v.jv _ (zZ y.c.js i zB);have C:=(h.j i zB).c;have h6:=J.n;have h7:=C.n;have h8:=C.m;omega
 ·obtain⟨i,hi,rfl⟩:=NU hs;have J:=h.v.jv _ (zZ y.c.js i zB);have h6:=J.n;have h7:=(h.j i zB).n;omega
 ·have:=h.wb w hw;have h6:=this.n;have h7:=this.m;omega
def NV (c:Cf) (sg:List Sg) (ks:List Int):List Sg:=ks.foldl (λs x=>s.set x.toNat (srF (c.js.getD x.toNat default) (s.getD x.toNat default))) sg
theorem zMa (c:Cf) (sg:List Sg) (ks:List Int) (x:Int):NV c sg (ks++[x])=(NV c sg ks).set x.toNat (srF (c.js.getD x.toNat default) ((NV c sg ks).getD x.toNat default)):=by
 unfold NV;rw[yDs];rfl
theorem KT {α:Type} [Inhabited α] (l:List α) (i j:Nat) (x:α) (hj:j<l.length):(l.set i x).getD j default=if i=j then x else l.getD j default:=by
 rw[zY0,yAx,zY0];by_cases h:i=j
 ·subst h;rw[zYp rfl,zYp hj,zYp rfl];rfl
 ·rw[zYo h,zYo h]
theorem zDo {c:Cf} (hv:DY c) {sv:List Sv} {now:Int}:∀(ks:List Int) (sg:List Sg),sg.length=c.js.length->(∀k,k<c.js.length->JI (c.js.getD k default) (sg.getD k default) (sv.getD k default) now)->(NV c sg ks).length=c.js.length/\∀k,k<c.js.length->JI (c.js.getD k default) ((NV c sg ks).getD k default) (sv.getD k default) now
 | [],sg,hl,h=>⟨hl,h⟩
 |x::ks,sg,hl,h=>by
  have e:NV c sg (x::ks)=NV c (sg.set x.toNat (srF (c.js.getD x.toNat default) (sg.getD x.toNat default))) ks:=rfl;rw[e];refine zDo hv ks _ (by rw[yAk];exact hl) λk hk=>?_
  rw[KT _ _ _ _ zB];split
  ·rename_i hx;rw[hx];have H:=h k hk;exact⟨zYf (hv.jv _ (zZ c.js k hk)) H.c,H.n,H.e,H.g⟩
  ·exact h k hk
theorem zQl (D:Nat->Sg×Sv) (l:List Sg) (n k:Nat) (h1:k<n) (h2:k<l.length):(MF D l n).getD k default=(D k).1:=by
 unfold MF;rw[zY0,uV,zYp h2,zYp h1];rfl
theorem zQm (D:Nat->Sg×Sv) (l:List Sv) (n k:Nat) (h1:k<n) (h2:k<l.length):(MG D l n).getD k default=(D k).2:=by
 unfold MG;rw[zY0,uV,zYp h2,zYp h1];rfl
def stU (js:List Jn) (D:Nat->Sg×Sv) (n:Nat):List Vw:=(List.range n).map λk=>CI (js.getD k default) (D k).1 (D k).2
theorem zQn (js:List Jn) (D:Nat->Sg×Sv) (n:Nat):stW js D n n=(stU js D n).map vO:=by
 unfold stW stU;rw[eQ,yC4];rfl
def BG (y:Cy) (R:Nat->DR):Nat->Sg×Sv:=ZT y.c (NV y.c y.sg (TF R y.ds.length)) y.sv y.st (RV (y.now+1) y.ds R y.ds.length) (y.now+1)
def fW (y:Cy) (R:Nat->DR):Cy:=
 ⟨y.c,false,y.now+1,RV (y.now+1) y.ds R y.ds.length,MF (BG y R) (NV y.c y.sg (TF R y.ds.length)) y.c.js.length,MG (BG y R) y.sv y.c.js.length,GG y.st y.c.js.length,stU y.c.js (BG y R) y.c.js.length⟩
def TkR (y:Cy) (ins:List In) (R:Nat->DR):Prop:=∀a,a<y.ds.length->DtP y.c (y.now+1) (PA (y.ds.getD a default) (y.now+1)) (owI y.c ins a) (R a)/\zO 110 [wJ y.c,zK (PA (y.ds.getD a default) (y.now+1)),zD kM (owI y.c ins a),iA (y.now+1)] [] (drT (R a)) []
theorem UZ {now:Int} {ds:List xQ} {R:Nat->DR} {a:Nat} (ha:a<ds.length):(RV now ds R ds.length).getD a default=(R a).d:=by
 unfold RV;rw[eQ,zY0,zYt,zZr ha];rfl
theorem YP (now:Int) (ds:List xQ) (R:Nat->DR):(RV now ds R ds.length).length=ds.length:=by simp[RV]
theorem QT {now:Int} {ds:List xQ} {R:Nat->DR} {d:xQ} (h:d∈RV now ds R ds.length):∃a,a<ds.length/\d=(R a).d:=by
 obtain⟨i,hi,rfl⟩:=NU h;rw[YP]at hi;exact⟨i,hi,UZ hi⟩
theorem zMb (l:List Rq) (now:Int):QX l (zIj l now):=QX.filter _ _
theorem zXo {y:Cy} (h:CyI y) (hn:y.now<1000000000) {ins:List In} (hil:(ins.length:Int)=gJ y.c.ags y.c.ags.length) (hin:∀i∈ins,InS i):∃R,TkR y ins R/\∀a,(R a).en.length<=2000/\(R a).ks.length<=2000:=by
 have hd:∀a,∃r:DR,(r.en.length<=2000/\r.ks.length<=2000)/\(a<y.ds.length->DtP y.c (y.now+1) (PA (y.ds.getD a default) (y.now+1)) (owI y.c ins a) r/\zO 110 [wJ y.c,zK (PA (y.ds.getD a default) (y.now+1)),zD kM (owI y.c ins a),iA (y.now+1)] [] (drT r) []):=λa=>by
  by_cases ha:a<y.ds.length
  ·have hI:=h.di _ (zZ y.ds a ha);obtain⟨b1,b2,_⟩:=zQw hI (y.now+1);have hau:=hI.au;rw[h.dg a ha]at hau;have hs:=(h.v.av _ (zZ y.c.ags a (by have:=h.dl;omega))).e;have n0:=h.n0
   obtain⟨r,hr⟩:=zKb y.c _ b1 (owI y.c ins a) (by unfold owI owP;rw[zYq,yAe];show _=(y.ds.getD a default).au.length;omega) (λi hi=>by
    unfold owI owP at hi;obtain⟨k,_,rfl⟩:=zZ3.1 hi;by_cases hk:(gJ y.c.ags a).toNat+k<ins.length
    ·exact hin _ (zZ ins _ hk)
    ·rw[zY0,zZj zB]
     exact⟨zY4 _,λx hx=>by cases hx⟩) (y.now+1) zB zB
   exact⟨r,⟨hr.1.el,hr.1.kl⟩,λ_=>hr⟩
  ·exact⟨⟨default,[],[],[]⟩,⟨zY4 _,zY4 _⟩,λh=>absurd h ha⟩
 exact⟨λa=>(hd a).choose,λa ha=>(hd a).choose_spec.2 ha,λa=>(hd a).choose_spec.1⟩
theorem zRt {y:Cy} (h:CyI y) {ins:List In} {R:Nat->DR} (hR:TkR y ins R):CyI (fW y R):=by
 have n0:=h.n0;have hg:=zDo h.v (sv:=y.sv) (now:=y.now) (TF R y.ds.length) y.sg h.gl h.j
 have hD:∀k,k<y.c.js.length->JI (y.c.js.getD k default) (BG y R k).1 (BG y R k).2 (y.now+1):=λk hk=>by
  have J:=h.v.jv _ (zZ y.c.js k hk);have H:=hg.2 k hk;exact zYn J zB ⟨H.c,H.n,λe he=>by have:=H.e e he;omega,H.g⟩ _ _ _
 have hsl:=h.sl;refine⟨h.v,rfl,by show 0<=y.now+1;omega,(YP ..).trans h.dl,λd hd=>?_,λa ha=>?_,λd hd=>?_,?_,?_,?_,?_,λw hw=>?_,λk hk=>?_⟩
 ·obtain⟨a,ha,rfl⟩:=QT hd;exact(hR a ha).1.i
 ·have ha':a<y.ds.length:=by rw[<-YP (y.now+1) y.ds R];exact ha
  show((RV (y.now+1) y.ds R y.ds.length).getD a default).rg.ag=_
  rw[UZ ha',(hR a ha').1.ag];exact h.dg a ha'
 ·obtain⟨a,ha,rfl⟩:=QT hd;refine(hR a ha).1.sc ?_;exact MA.of zB ((h.sc _ (zZ y.ds a ha)).mono zB) (zMb _ _)
 ·show(MF _ _ _).length=_
  unfold MF;rw[vG];exact hg.1
 ·show(MG _ _ _).length=_
  unfold MG;rw[vG];exact h.sl
 ·show(GG _ _).length=_
  unfold GG;rw[vG];exact h.tl
 ·show(stU _ _ _).length=_
  simp[stU,fW]
 ·unfold fW stU at hw;obtain⟨k,hk,rfl⟩:=zZ3.1 hw;exact zRl _ (h.v.jv _ (zZ y.c.js k (zZi.1 hk))) _ _
 ·show JI _ ((MF (BG y R) (NV y.c y.sg (TF R y.ds.length)) y.c.js.length).getD k default) ((MG (BG y R) y.sv y.c.js.length).getD k default) _
  have hk':k<y.c.js.length:=hk;rw[zQl _ _ _ _ hk' (by rw[hg.1];exact hk'),zQm _ _ _ _ hk' zB];exact hD k hk
def tdT (y:Cy) (ins:List In) (R:Nat->DR) (n a k:Nat):List Ms:=if(ins.getD ((gJ y.c.ags a).toNat+k) default).opn=true then tlF (y.ds.getD a default) y.vw y.now k (R a).R (ME R n)else []
def BU (T:Nat->Nat->List Ms) (a k:Nat):List (List Ms):=(List.range k).map (T a)
def GR (c:Cf) (T:Nat->Nat->List Ms) (n:Nat):List (List Ms):=((List.range n).map λa=>BU T a (c.ags.getD a default).ses.toNat).flatten
def tdA (T:List (List Ms)) (f:Ms):AV:= .agg [zD aO T,zD yB [f]]
theorem zMc (T:Nat->Nat->List Ms) (a k:Nat):BU T a (k+1)=BU T a k++[T a k]:=by simp[BU,yBa]
theorem NW (c:Cf) (T:Nat->Nat->List Ms) (n:Nat):GR c T (n+1)=GR c T n++BU T n (c.ags.getD n default).ses.toNat:=by simp[GR,yBa]
theorem QU {c:Cf} (hw:MB c.ags) (T:Nat->Nat->List Ms):∀n,n<=c.ags.length->((GR c T n).length:Int)=gJ c.ags n
 |0,_=>rfl
 |n+1,hn=>by
  have ih:=QU hw T n zB;have:=hw.at (i:=n) zB;rw[NW,zYr]
  show _=gJ c.ags n+(c.ags.getD n default).ses
  have:(BU T n (c.ags.getD n default).ses.toNat).length=(c.ags.getD n default).ses.toNat:=by simp[BU]
  omega
theorem QV {c:Cf} (hw:MB c.ags) (T:Nat->Nat->List Ms):∀n,n<=c.ags.length->∀s,s<(GR c T n).length->∃a k:Nat,a<n/\(k:Int)<(c.ags.getD a default).ses/\s=(gJ c.ags a).toNat+k/\(GR c T n).getD s []=T a k
 |0,_,s,hs=>by cases hs
 | n+1,hn,s,hs=>by
  have hl:=QU hw T n zB;rw[NW]at hs⊢;by_cases h:s<(GR c T n).length
  ·obtain⟨a,k,h1,h2,h3,h4⟩:=QV hw T n zB s h;refine⟨a,k,zB,h2,h3,?_⟩;rw[zY0,zZf h,<-zY0];exact h4
  ·rw[zYr]at hs;have hp:(BU T n (c.ags.getD n default).ses.toNat).length=(c.ags.getD n default).ses.toNat:=by simp[BU]
   refine⟨n,s-(GR c T n).length,zB,zB,zB,?_⟩;rw[zY0,zZe zB];unfold BU;rw[zYt,zZr zB];rfl
theorem zQo {R:Nat->DR} {n:Nat} {x:Int} (h:x∈TF R n):∃a,a<n/\x∈(R a).ks:=by
 unfold TF at h;obtain⟨l,hl,hx⟩:=yCc.1 h;obtain⟨a,ha,rfl⟩:=zZ3.1 hl;exact⟨a,zZi.1 ha,hx⟩
theorem zDp {R:Nat->DR} {n:Nat} {x:En} (h:x∈ME R n):∃a,a<n/\x∈(R a).en:=by
 unfold ME at h;obtain⟨l,hl,hx⟩:=yCc.1 h;obtain⟨a,ha,rfl⟩:=zZ3.1 hl;exact⟨a,zZi.1 ha,hx⟩
def tdO (T:List (List Ms)) (f:Ms):AV:= .agg [.ref 1051 0 (T.map aO).length,zD yB [f]]
def tdH (T:List (List Ms)):List (Nat×xP):=[(1051,.arr 1 (T.map aO) true)]
theorem zQp (y:Cy) (h:CyI y) (hn:y.now<1000000000) (ins:List In) (hil:(ins.length:Int)=gJ y.c.ags y.c.ags.length) (R:Nat->DR) (hR:TkR y ins R) (hen:∀i,(R i).en.length<=2000) (hks:∀i,(R i).ks.length<=2000):
  zO 18 [qB y,zD kM ins] [] (.tup [qB (fW y R),tdO (GR y.c (tdT (fW y R) ins R y.ds.length) y.c.ags.length) (MZ (y.now+1) (fW y R).vw)]) (tdH (GR y.c (tdT (fW y R) ins R y.ds.length) y.c.ags.length)):=by
 have hb:=h.b;have n0:=h.n0;have hw:=h.v.ag;have k1:=NR y hb;have hdl:=h.dl;have k2:=zFp y.c hw (y.now+1) zB zB y.ds h.dl (λi hi=>h.di _ (zZ y.ds i hi)) ins hil R hen hks (λa ha=>(hR a ha).2) (y.sg.map vF) (y.sv.map vC) (y.st.map iA) (y.sg.map vF).length (y.sv.map vC).length (y.st.map iA).length y.vw;have hi9:=zA kM ins;have hmin:min y.now 1073741823+1=y.now+1:=by omega
 have hrf:=h.rf;have eC:qB y= .agg [zD wC y.c.js,zD wN y.c.ags,iA y.c.per,iA y.c.cap,iA y.c.hold,iA y.c.lock,bA false,iA y.now,zD zK y.ds,zD vF y.sg,zD vC y.sv,zD iA y.st,zD vO y.vw]:=by rw[<-hrf];rfl
 unfold zKm zKn YV at k1;rw[eC,hrf]at k1;unfold YV at k2;rw[eC];refine eM call18 λF hF=>?_
 refine zW k1 ?_;rw[hmin];refine zW k2 ?_;refine uQ [2,3,4,5,6,7,1012,1013,1014] [2,3,4,5,6,7,34,35,36] rfl ?_
 (conv=>whnf)
 have hds:(y.ds.map zK).length=((RV (y.now+1) y.ds R y.ds.length).map zK).length:=by rw[zYq,zYq,YP]
 have hgl:=zA vF y.sg;have hvl:=zA vC y.sv;have htl:=zA iA y.st;have hgl2:=h.gl;have hvl2:=h.sl;have htl2:=h.tl;simp only[zZv];rw[hds,zYv,hgl,hvl,htl,hgl2,hvl2,htl2];clear k1 k2
 have hkx:∀x∈TF R y.ds.length,0<=x/\x<(y.c.js.length:Int):=λx hx=>by
  obtain⟨a,ha,hx⟩:=zQo hx;exact(hR a ha).1.ks x hx
 have hkl:=GF hks y.ds.length;have hags:=h.v.a;have hks9:(TF R y.ds.length).length<=10000:=by omega
 have hjl:=zA wC y.c.js;have hkm:=zA iA (TF R y.ds.length);have eY:fW y R=⟨y.c,false,y.now+1,RV (y.now+1) y.ds R y.ds.length,MF (BG y R) (NV y.c y.sg (TF R y.ds.length)) y.c.js.length,MG (BG y R) y.sv y.c.js.length,GG y.st y.c.js.length,stU y.c.js (BG y R) y.c.js.length⟩:=rfl;refine yS ((TF R y.ds.length)) [1012,2,3,4,5,6,7,1013,1014] [2,3,4,5,6,7,1013,1014] [2,3,4,5,6,7,34,35,86] [36,2,3,4,5,6,7,34,35,86] rfl (λi pre T U=>⟨(36,iA i)::T,(1012,.arr 5 ((NV y.c y.sg pre).map vF) false)::U⟩) ?_;(conv=>whnf);refine⟨by rfl,?_,?_⟩
 ·intro i pre x post hx hi;have hy:=xO iA hx hi;have hlt:=yX hx hi;have hxb:=hkx x (wY hx);obtain⟨g1,g2⟩:=zDo h.v (sv:=y.sv) (now:=y.now) pre y.sg h.gl h.j;have J:=h.v.jv _ (zZ y.c.js x.toNat zB);have C:=(g2 x.toNat zB).c;have hJ:=J.n;have hC:=C.n;have hM:=C.m;have kr:=zK0 (y.c.js.getD x.toNat default) J ((NV y.c y.sg pre).getD x.toNat default) zB zB;have hyj:=yP wC y.c.js x hxb.1 hxb.2;have hyg:=yP vF (NV y.c y.sg pre) x hxb.1 zB;have hgl3:=zA vF (NV y.c y.sg pre);rw[zMa,yAw];clear hx hkx eY hR J C g2;generalize (NV y.c y.sg pre).getD x.toNat default=s at *;generalize y.c.js.getD x.toNat default=j at *;generalize NV y.c y.sg pre=X at *;generalize X.map vF=Y at *;refine zW kr ?_;rfl
 ·obtain⟨g1,g2⟩:=zDo h.v (sv:=y.sv) (now:=y.now) (TF R y.ds.length) y.sg h.gl h.j
  have kst:=zL9 y.c h.v (y.now+1) zB zB (RV (y.now+1) y.ds R y.ds.length) (by rw[YP];omega) (λd hd=>by
    obtain⟨a,ha,rfl⟩:=QT hd
    exact(hR a ha).1.i) (λd hd=>by
    obtain⟨a,ha,rfl⟩:=QT hd;refine(hR a ha).1.sc ?_
    exact MA.of zB ((h.sc _ (zZ y.ds a ha)).mono zB) (zMb _ _)) (NV y.c y.sg (TF R y.ds.length)) y.sv y.st y.vw g1 h.sl h.tl (λk hk=>by
    have H:=g2 k hk
    exact⟨H.c,H.n,λe he=>by have:=H.e e he;omega,H.g⟩)
  have l1:((NV y.c y.sg (TF R y.ds.length)).map vF).length=y.c.js.length:=by rw[zYq];exact g1
  have l2:(y.sv.map vC).length=y.c.js.length:=by rw[zYq];exact h.sl
  have l3:(y.st.map iA).length=y.c.js.length:=by rw[zYq];exact h.tl
  have l4:((MF (BG y R) (NV y.c y.sg (TF R y.ds.length)) y.c.js.length).map vF).length=y.c.js.length:=by unfold MF;rw[zYq,vG];exact g1
  have l5:((MG (BG y R) y.sv y.c.js.length).map vC).length=y.c.js.length:=by unfold MG;rw[zYq,vG];exact h.sl
  have l6:((GG y.st y.c.js.length).map iA).length=y.c.js.length:=by unfold GG;rw[zYq,vG];exact h.tl
  have l7:((stU y.c.js (BG y R) y.c.js.length).map vO).length=y.c.js.length:=by simp[stU]
  have hal:=zA wN y.c.ags;unfold stH at kst;rw[show ZT y.c (NV y.c y.sg (TF R y.ds.length)) y.sv y.st (RV (y.now+1) y.ds R y.ds.length) (y.now+1)=BG y R from rfl,zQn,l1,l2,l3,l4,l5,l6]at kst;have eT:qB (fW y R)= .agg [zD wC y.c.js,zD wN y.c.ags,iA y.c.per,iA y.c.cap,iA y.c.hold,iA y.c.lock,bA false,iA (y.now+1),zD zK (fW y R).ds,zD vF (fW y R).sg,zD vC (fW y R).sv,zD iA (fW y R).st,zD vO (fW y R).vw]:=rfl;have d1:RV (y.now+1) y.ds R y.ds.length=(fW y R).ds:=rfl;have d2:MF (BG y R) (NV y.c y.sg (TF R y.ds.length)) y.c.js.length=(fW y R).sg:=rfl;have d3:MG (BG y R) y.sv y.c.js.length=(fW y R).sv:=rfl;have d4:GG y.st y.c.js.length=(fW y R).st:=rfl;have d5:stU y.c.js (BG y R) y.c.js.length=(fW y R).vw:=rfl;rw[d2]at kst l4;rw[d3]at kst l5;rw[d4]at kst l6;rw[d5]at kst l7;rw[d1]at kst⊢;refine zW kst ?_;refine uQ [2,3,4,5,6,7,11] [2,3,4,5,6,7,11,78,79] rfl ?_
  (conv=>whnf)
  simp only[zZv];rw[zYy (l:=(fW y R).sg.map vF) (yAq l4),zYy (l:=(fW y R).sv.map vC) (yAq l5),zYy (l:=(fW y R).st.map iA) (yAq l6),zYy (l:=(fW y R).vw.map vO) (yAq l7),hal];have hZ:=zRt h hR;have zc:(fW y R).c=y.c:=rfl;have zn:(fW y R).now=y.now+1:=rfl;have zd:(fW y R).ds.length=y.ds.length:=YP ..;have zR:∀a,a<y.ds.length->(fW y R).ds.getD a default=(R a).d:=λa ha=>UZ ha
  have hzl:=zA zK (fW y R).ds;have eA:∀T f,tdO T f= .agg [.ref 1051 0 (T.map aO).length,zD yB [f]]:=λ_ _=>rfl
  have eH:∀T,tdH T=[(1051,.arr 1 (T.map aO) true)]:=λ_=>rfl
  rw[eT,eA,eH];clear d1 d2 d3 d4 d5 kst l1 l2 l3 l4 l5 l6 l7 g1 g2 hkx eY hds;refine vW 11 0 1051 1 rfl rfl rfl rfl rfl ?_
  have hTf:∀a k,tdT (fW y R) ins R y.ds.length a k=if(ins.getD ((gJ y.c.ags a).toNat+k) default).opn=true then tlF ((fW y R).ds.getD a default) (fW y R).vw (fW y R).now k (R a).R (ME R y.ds.length)else []:=λ_ _=>rfl
  generalize tdT (fW y R) ins R y.ds.length=tf at *;generalize fW y R=z at *;refine zP (y.c.ags.length) [11,1051,2,3,4,5,6,7] [2,3,4,5,6,7] [2,3,4,5,6,7,11,78,86] [79,2,3,4,5,6,7,11,78,86] rfl (λi T U=>⟨(79,iA i)::T,(11,.box [.ref 1051 0 ((GR y.c tf i).map aO).length,.s (.slice none 0 0)])::(1051,.arr 1 ((GR y.c tf i).map aO) true)::U⟩) ?_;(conv=>whnf);refine⟨by rfl,?_,?_⟩
  ·intro i hi;have hid:i<y.ds.length:=by omega
   have ks:=zC4 y.c i;have ht:=zJ5 y.c hw i hi;obtain⟨bs,hbs⟩:∃bs:Nat,gJ y.c.ags i=(bs:Int):=⟨(gJ y.c.ags i).toNat,by have:=jR hw i zB;omega⟩;obtain⟨N,hN⟩:∃N:Nat,(y.c.ags.getD i default).ses=(N:Int):=⟨(y.c.ags.getD i default).ses.toNat,by have:=hw.at (i:=i) zB;omega⟩
   have hbd:bs+N<=ins.length:=by
    have:=BF hw (show i+1<=y.c.ags.length by omega) (zYs _);have h2:gJ y.c.ags (i+1)=gJ y.c.ags i+(y.c.ags.getD i default).ses:=rfl;omega
   have hN2:=hw.at (i:=i) zB;have hL:HN y.c i=(List.range N).map λk=>[plA i k (bs+k)]:=by unfold HN;rw[hbs,hN];rfl
   have htd:=QU hw tf i zB;have hsb:=jR hw i zB;rw[NW,show(y.c.ags.getD i default).ses.toNat=N by omega]
   have hy6:(List.map (λk=>rpA (R k)) (List.range y.ds.length))[i]? =some (.sl false ((R i).R.map aO)):=by
    rw[zYt,zZr hid];rfl
   have hDt:=(hR i hid).1;have hI:=hZ.di _ (zZ z.ds i zB);have hzi:=zR i hid
   have hau:(R i).d.au.length=N:=by
    have:=hDt.i.au;rw[hDt.ag]at this;have e9:=h.dg i hid;rw[show(PA (y.ds.getD i default) (y.now+1)).rg.ag=(y.ds.getD i default).rg.ag from rfl,e9]at this;omega
   have hau2:(PA (y.ds.getD i default) (y.now+1)).au.length=N:=by
    have:=(h.di _ (zZ y.ds i hid)).au;rw[h.dg i hid]at this
    show(y.ds.getD i default).au.length=N
    omega
   have hRl:=hDt.rn;rw[hau2]at hRl;have hRv:=hDt.rv
   have hEn:∀e∈ME R y.ds.length,EnK e:=λe he=>by
    obtain⟨a,ha,he⟩:=zDp he;exact(hR a ha).1.en e he
   have hEl:=GE hen y.ds.length;have hq9:=hI.a.q;have kt:=λk (hk:k<N)=>zPd z hZ.n0 zB i k (bs+k) zB hI.bd hq9 (by have:=hZ.wl;have:=hZ.v.j;omega) hZ.wb (by rw[hzi];omega) (R i).R hRv zB (ME R y.ds.length) hEn zB
   have hTf':∀k,k<N->tf i k=if(ins.getD (bs+k) default).opn=true then tlF (z.ds.getD i default) z.vw z.now k (R i).R (ME R y.ds.length)else []:=λk hk=>by
    rw[hTf i k,hbs];rfl
   clear hTf hEn hRv hR hDt hI zR;have eZ:qB z= .agg [zD wC y.c.js,zD wN y.c.ags,iA y.c.per,iA y.c.cap,iA y.c.hold,iA y.c.lock,bA false,iA (y.now+1),zD zK z.ds,zD vF z.sg,zD vC z.sv,zD iA z.st,zD vO z.vw]:=eT;rw[eZ]at kt;rw[show zD aO (R i).R= .sl false ((R i).R.map aO)from rfl]at kt;generalize (R i).R.map aO=Rm at *;rw[zYz];have hxl:=zA aO (GR y.c tf i);generalize (GR y.c tf i).map aO=X at *;unfold zFg at ks ht;unfold wJ at ks;refine zW ks ?_
   refine wW hF ht rfl [2,3,4,5,6,7,11,12,1051] [2,3,4,5,6,7,11,12,78,79] rfl rfl rfl rfl rfl rfl rfl rfl rfl (λk ys h=>?_) (λk=>[(2,.box [zD wC y.c.js,zD wN y.c.ags,iA y.c.per,iA y.c.cap,iA y.c.hold,iA y.c.lock,bA false,iA (y.now+1),zD zK z.ds,zD vF z.sg,zD vC z.sv,zD iA z.st,zD vO z.vw]),(3,.box [zD kM ins]),(4,.box [.s (.slice none 0 0),.s (.slice none 0 0),iA 0,iA 0,iA 0,iA 0,bA false,iA 0,.s (.slice none 0 0),.s (.slice none 0 0),.s (.slice none 0 0),.s (.slice none 0 0),.s (.slice none 0 0)]),(5,.box [.s (.slice none 0 0),.s (.slice none 0 0)]),(6,.box [.sl false (List.map (λk=>rpA (R k)) (List.range y.ds.length))]),(7,.box [zD gF (ME R y.ds.length)]),(11,.box [.ref 1051 0 (X++(BU tf i k).map aO).length,.s (.slice none 0 0)]),(12,.box [iA i]),(1051,.arr 1 (X++(BU tf i k).map aO) true)]) (λ_=>True)
    (T:=[(2,.ptr 2 0 0),(3,.ptr 3 0 0),(4,.ptr 4 0 0),(5,.ptr 5 0 0),(6,.ptr 6 0 0),(7,.ptr 7 0 0),(11,.ptr 11 0 0),(12,.ptr 12 0 0),(78,iA y.c.ags.length),(79,iA i)]) (by rw[show(BU tf i 0).map aO=[]from rfl,zZo];rfl) trivial (λk ys q hys hI9 F1 h1 h2=>?_) (λhI9=>?_)
   ·rw[hL,zYt,zY1]at h;obtain⟨x,_,rfl⟩:=h;rfl
   ·have hk:k<N:=by
     have:=(zZg.1 hys).1;rw[hL,zYq,yAe]at this;exact this
    rw[hL,zYt,zZr hk]at hys;obtain rfl:=yA2 hys;have hyi:=zN kM ins (bs+k) zB;have hol:((BU tf i k).map aO).length=k:=by unfold BU;rw[zYq,zYq,yAe]
    have kt:=kt k hk;rw[zMc,zYz,show [tf i k].map aO=[zD yB (tf i k)]from rfl,hTf' k hk,<-zZc];generalize (BU tf i k).map aO=O at *;generalize ins.getD (bs+k) default=x at *;generalize tlF (z.ds.getD i default) z.vw z.now k (R i).R (ME R y.ds.length)=tl at *;unfold kM at hyi;obtain⟨xo,xs⟩:=x;refine WW ?_;refine⟨rfl,λF2 g1 g2=>?_⟩;dsimp only at hyi⊢;cases xo
    ·rw[zYo zZb]
     (repeat' (first|refine aT ?_|refine xR (λhc=>?_) (λhc=>?_)|refine wE (λhc=>?_)|(refine zE ?_;first|(refine yZ ?_;refine UG 117 rfl rfl rfl ?_;refine kH tok rfl rfl ?_))|refine SB ?_|fail))
     exact⟨rfl,trivial⟩
    ·rw[zYp rfl]
     (have zc1:=kt;(repeat' (first|refine aT ?_|refine xR (λhc=>?_) (λhc=>?_)|refine wE (λhc=>?_)|(refine zE ?_;first|(refine yZ ?_;refine UG 117 rfl rfl rfl ?_;refine kH tok rfl rfl ?_))|refine SB ?_|fail))<;>clear zc1)
     exact⟨rfl,trivial⟩
   ·rw[show(HN y.c i).length=N by rw[hL,zYq,yAe]]
    show uI _ _ _ _ ⟨_,_⟩ _
    refine WW ?_;rfl
  ·have hwl:z.vw.length<=4:=by have:=hZ.wl;have:=hZ.v.j;omega
   have kf:=zT9 (y.now+1) z.vw zB hZ.wb;have kv:=DV [MZ (y.now+1) z.vw] zU (λm hm=>by rw[zZu.1 hm];exact zW2 z.vw (y.now+1) zB zB hwl hZ.wb);rw[show zD yB [MZ (y.now+1) z.vw]= .sl false [yB (MZ (y.now+1) z.vw)]from rfl]at *; generalize MZ (y.now+1) z.vw=fm at *;have hxl:=zA aO (GR y.c tf y.c.ags.length);generalize (GR y.c tf y.c.ags.length).map aO=X at *;refine zW kf ?_
   (refine vT 67 ?_;refine gB [2,4,5,11,1051] [2,4,5,11,127] rfl ?_;(conv=>whnf);(try simp only[zZv,zYv]);first|refine yF (zH (kv) rfl rfl rfl rfl rfl) rfl ?_|refine uF (zH (kv) rfl rfl rfl rfl rfl) rfl rfl rfl ?_|refine bJ (zH (kv) rfl rfl rfl rfl rfl) rfl rfl rfl ?_)
   refine WW ?_;exact zI [1051] rfl rfl rfl rfl
theorem zVi {y y':Cy} {ins:List In} {T:List (List Ms)} {f:Ms} (k:zO 18 [qB y,zD kM ins] [] (.tup [qB y',tdO T f]) (tdH T)):zO 18 [qB y,zD kM ins] [] (.tup [qB y',tdA T f]) []:=by
 refine k.frz [] ?_ rfl rfl
 show AV.tup [_,AV.agg [AV.sl false (List.take (T.map aO).length (T.map aO)),_]]=_
 rw[zYv];rfl
structure MtP (y y':Cy) (ins:List In) (T:List (List Ms)):Prop where
 i:CyI y'
 c:y'.c=y.c
 n:y'.now=y.now+1
 l:T.length=ins.length
 v:∀x∈T,x.length<=1002/\∀m∈x,RE m
 f:RE (MZ (y.now+1) y'.vw)
 off:∀s,s<ins.length->(ins.getD s default).opn=false->T.getD s []=[]
 on:∀s,s<ins.length->(ins.getD s default).opn=true->∃(l1 l2:List Ms) (d:xQ),T.getD s []=l1++(bX d y'.vw (y.now+1)::l2)/\l1.length=(ins.getD s default).its.length/\RE (bX d y'.vw (y.now+1))
 tk:∃R,TkR y ins R/\y'=fW y R/\T=GR y.c (tdT y' ins R y.ds.length) y.c.ags.length
theorem zMd (y:Cy) (h:CyI y) (hn:y.now<1000000000) (ins:List In) (hil:(ins.length:Int)=gJ y.c.ags y.c.ags.length) (hin:∀i∈ins,InS i):
  ∃(y':Cy) (T:List (List Ms)),MtP y y' ins T/\zO 18 [qB y,zD kM ins] [] (.tup [qB y',tdO T (MZ (y.now+1) y'.vw)]) (tdH T):=by
 obtain⟨R,hR,hb⟩:=zXo h hn hil hin;have k:=zQp y h hn ins hil R hR (λi=>(hb i).1) (λi=>(hb i).2);have hZ:=zRt h hR;have n0:=h.n0;have hw:=h.v.ag;have hdl:=h.dl;have hl:=QU hw (tdT (fW y R) ins R y.ds.length) _ (zYs _);have hwl:(fW y R).vw.length<=4:=by have:=hZ.wl;have:=hZ.v.j;omega
 have hEn:∀e∈ME R y.ds.length,EnK e:=λe he=>by
  obtain⟨a,ha,he⟩:=zDp he;exact(hR a ha).1.en e he
 refine⟨fW y R,GR y.c (tdT (fW y R) ins R y.ds.length) y.c.ags.length,⟨hZ,rfl,rfl,zB,λx hx=>?_,zW2 _ _ zB zB hwl hZ.wb,λs hs ho=>?_,λs hs ho=>?_,R,hR,rfl,rfl⟩,k⟩
 ·obtain⟨s,hs,e⟩:=yCq.1 hx;obtain⟨a,k,h1,h2,h3,h4⟩:=QV hw (tdT (fW y R) ins R y.ds.length) _ (zYs _) s hs;have e2:x=tdT (fW y R) ins R y.ds.length a k:=by rw[<-h4,zY0,zZd hs,<-e];rfl
  rw[e2];unfold tdT;split
  ·have hid:a<y.ds.length:=by omega
   have hDt:=(hR a hid).1
   have hau2:((PA (y.ds.getD a default) (y.now+1)).au.length:Int)=(y.c.ags.getD a default).ses:=by
    have:=(h.di _ (zZ y.ds a hid)).au;rw[h.dg a hid]at this;exact this
   have hRl:=hDt.rn;have hq:=hDt.i.a.q;have hzi:(fW y R).ds.getD a default=(R a).d:=UZ hid;rw[hzi];exact zRj _ hq _ _ (by show 0<=y.now+1;omega) (by show y.now+1<=_;omega) hwl hZ.wb k (R a).R hDt.rv zB _ hEn
  ·exact⟨zY4 _,λm hm=>by cases hm⟩
 ·obtain⟨a,k,h1,h2,h3,h4⟩:=QV hw (tdT (fW y R) ins R y.ds.length) _ (zYs _) s zB;rw[h4];unfold tdT;rw[show(gJ (fW y R).c.ags a).toNat+k=s from h3.symm,ho,zYo zZb]
 ·obtain⟨a,k,h1,h2,h3,h4⟩:=QV hw (tdT (fW y R) ins R y.ds.length) _ (zYs _) s zB;have hid:a<y.ds.length:=by omega
  have hDt:=(hR a hid).1
  have hau2:((PA (y.ds.getD a default) (y.now+1)).au.length:Int)=(y.c.ags.getD a default).ses:=by
   have:=(h.di _ (zZ y.ds a hid)).au;rw[h.dg a hid]at this;exact this
  have hq:=hDt.i.a.q;have hzi:(fW y R).ds.getD a default=(R a).d:=UZ hid;have hrl:=hDt.rl k zB;have hol:(owI y.c ins a).length=(y.c.ags.getD a default).ses.toNat:=by unfold owI owP;rw[zYq,yAe]
  have hog:(owI y.c ins a).getD k default=ins.getD s default:=by
   unfold owI owP;rw[zY0,zYt,zZr zB,h3];rfl
  have hsi:dQ (owI y.c ins a) k=(ins.getD s default).its:=by
   unfold dQ;rw[hog,zYp ⟨zB,ho⟩]
  rw[hsi]at hrl;refine⟨(R a).R.getD k [],(if((fW y R).ds.getD a default).au.getD k default=true then [trM (fW y R).now (ME R y.ds.length)]else []),(fW y R).ds.getD a default,?_,hrl,?_⟩
  ·rw[h4];unfold tdT;rw[show(gJ (fW y R).c.ags a).toNat+k=s from h3.symm,ho,zYp rfl];unfold tlF;rw[zZc];rfl
  ·rw[hzi];exact zJv _ hq _ _ zB zB hwl hZ.wb
theorem zFq (y:Cy) (h:CyI y) (j p:Int):∃y':Cy,CyI y'/\y'.c=y.c/\(y'.now=y.now/\y'.sg=y.sg)/\zO 56 [qB y,iA j,iA p] [] (qB y') []:=by
 have hb:=h.b;have hrf:=h.rf;have hjl:=zA wC y.c.js;have htl:=zA iA y.st;have htl2:=h.tl;have eC:qB y= .agg [zD wC y.c.js,zD wN y.c.ags,iA y.c.per,iA y.c.cap,iA y.c.hold,iA y.c.lock,bA false,iA y.now,zD zK y.ds,zD vF y.sg,zD vC y.sv,zD iA y.st,zD vO y.vw]:=by rw[<-hrf];rfl
 by_cases hj:0<=j/\j<(y.c.js.length:Int)
 case neg=>
  refine⟨y,h,rfl,⟨rfl,rfl⟩,?_⟩;have k1:=ZO y hb;rw[eC]at k1⊢;by_cases h0:j<0
  ·(refine eM call56 λF hF=>?_)
   refine zW k1 ?_;exact zL
  ·(refine eM call56 λF hF=>?_)
   refine zW k1 ?_;exact zL
 obtain⟨j0,j1⟩:=hj;have hyj:=yP wC y.c.js j j0 j1;have hpl:=zA vE (y.c.js.getD j.toNat default).ph;by_cases hp:0<=p/\p<((y.c.js.getD j.toNat default).ph.length:Int)
 case neg=>
  refine⟨y,h,rfl,⟨rfl,rfl⟩,?_⟩;have k1:=ZO y hb;rw[eC]at k1⊢;generalize y.c.js.getD j.toNat default=jn at *;unfold wC at hyj;by_cases h0:p<0
  ·(refine eM call56 λF hF=>?_)
   refine zW k1 ?_;exact zL
  ·(refine eM call56 λF hF=>?_)
   refine zW k1 ?_;exact zL
 obtain⟨p0,p1⟩:=hp;refine⟨⟨y.c,false,y.now,y.ds,y.sg,y.sv,y.st.set j.toNat p,y.vw⟩,⟨h.v,rfl,h.n0,h.dl,h.di,h.dg,h.sc,h.gl,h.sl,by dsimp only;rw[yAk];exact h.tl,h.wl,h.wb,h.j⟩,rfl,⟨rfl,rfl⟩,?_⟩;have k1:=NR y hb;unfold zKm zKn YV at k1;rw[eC,hrf]at k1;rw[eC];have e2:(y.st.set j.toNat p).map iA=(y.st.map iA).set j.toNat (iA p):=yAw ..;rw[show qB ⟨y.c,false,y.now,y.ds,y.sg,y.sv,y.st.set j.toNat p,y.vw⟩= .agg [zD wC y.c.js,zD wN y.c.ags,iA y.c.per,iA y.c.cap,iA y.c.hold,iA y.c.lock,bA false,iA y.now,zD zK y.ds,zD vF y.sg,zD vC y.sv,.sl false ((y.st.map iA).set j.toNat (iA p)),zD vO y.vw] by rw[<-e2];rfl];clear e2;have hyt:=yP iA y.st j j0 zB;generalize y.c.js.getD j.toNat default=jn at *;unfold wC at hyj;refine eM call56 λF hF=>?_
 refine zW k1 ?_;refine zI [] rfl rfl ?_ rfl
 show AV.agg [_,_,_,_,_,_,_,_,.sl false (List.take (y.ds.map zK).length (y.ds.map zK)),.sl false (List.take (y.sg.map vF).length (y.sg.map vF)),.sl false (List.take (y.sv.map vC).length (y.sv.map vC)),.sl false (List.take (y.st.map iA).length ((y.st.map iA).set j.toNat (iA p))),_]=_
 rw[zYv,zYv,zYv,zYy (by rw[yAk];exact zYs _)];rfl
end Av
end Go.Proofs.YtmamjhmoegjapaaGreat
