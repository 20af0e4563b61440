/- Part 31. -/
import Derived.Test.YteajjdidebfcjaaGreatR30
import Derived.Maps.RangeRun
namespace Go.Proofs.YteajjdidebfcjaaGreat
namespace Av
set_option linter.all false
set_option maxRecDepth 4000
set_option maxHeartbeats 4000000
structure Wt where
 ag:Int
 id:Int
 jn:Int
 si:Int
def AtW (ds:List yY) (w:Wt) (p:Int):Prop:=∃d∈ds,d.rg.num=w.ag/\∃r∈d.rq,r.id=w.id/\∃g∈r.legs,g.jn=w.jn/\g.sc=w.si/\g.ph=p
theorem AtW.dq {a b:List yY} (h:a.map GB=b.map GB) {w:Wt} {p:Int} (H:AtW a w p):AtW b w p:=by
 obtain⟨d,hd,e1,r,hr,h2⟩:=H;have hm:GB d∈b.map GB:=h▸yA5.2 ⟨d,hd,rfl⟩;obtain⟨d',hd',e⟩:=yA5.1 hm;have ea:d'.rg.num=d.rg.num:=yA6 Prod.fst e;have eb:d'.rq=d.rq:=yA6 Prod.snd e;exact⟨d',hd',ea.trans e1,r,by rw[eb];exact hr,h2⟩
def zNl {l:List Rq} (h:l.Pairwise λa b=>a.id<b.id) {a b:Rq} (ha:a∈l) (hb:b∈l) (e:a.id=b.id):a=b:=by
 obtain⟨i,hi,rfl⟩:=yDe.1 ha;obtain⟨j,hj,rfl⟩:=yDe.1 hb;have hp:=List.pairwise_iff_getElem.1 h;by_cases h1:i<j
 ·have:=hp i j hi hj h1;omega
 ·by_cases h2:j<i
  ·have:=hp j i hj hi h2;omega
  ·obtain rfl:i=j:=by omega
   rfl
def zNm {l:List Lg} (h:NW l=true) {a b:Lg} (ha:a∈l) (hb:b∈l) (e:a.jn=b.jn):a=b:=by
 unfold NW at h;rw[yAk]at h;obtain⟨pre,post,hl⟩:=yE7 ha;rw[hl]at h hb;have h1:=SZ h.2;rw[yCo]at h1
 rcases yAw.1 hb with hb|hb
 ·exact absurd e.symm (h1 b hb)
 ·rcases yBd.1 hb with rfl|hb
  ·rfl
  ·obtain⟨p2,q2,h2⟩:=yE7 hb;have h3:=h.2;rw[h2,show pre++a::(p2++b::q2)=(pre++a::p2)++b::q2 by simp]at h3;exact absurd e (SZ h3 a zU)
theorem AtW.uniq {y:Cy} (h:XS y) (W:AK y) {w:Wt} {p q:Int} (h1:AtW y.ds w p) (h2:AtW y.ds w q):p=q:=by
 obtain⟨d,hd,a1,r,hr,a2,g,hg,a3,_,rfl⟩:=h1;obtain⟨d',hd',b1,r',hr',b2,g',hg',b3,_,rfl⟩:=h2;have hI:=h.di d hd;obtain⟨i,hi,rfl⟩:=dL hd;obtain⟨j,hj,rfl⟩:=dL hd';have c1:=W.n i hi;have c2:=W.n j hj;obtain rfl:i=j:=by omega
 obtain rfl:=zNl hI.v.so hr hr' zB;obtain rfl:=zNm (hI.v.ok r hr).lg hg hg' zB;rfl
def wcB (y:Cy) (k:Nat):Bool:=!(y.vw.getD k default).fl&& !((vV (k:Int) y.ds).any λc=>jW c.k)
def BO (y:Cy) (d:yY) (r:Rq) (g:Lg):List Wt:=if g.sc= -1 then []else if g.jn<0∨(y.vw.length:Int)<=g.jn then []else if wcB y g.jn.toNat=false then []else if cdF g y.vw y.now=3 then []else [⟨d.rg.num,r.id,g.jn,g.sc⟩]
def AG (y:Cy) (d:yY) (r:Rq):List Wt:=(r.legs.map (BO y d r)).flatten
def wtD (y:Cy) (d:yY):List Wt:=(d.rq.map (AG y d)).flatten
def wtL (y:Cy):List Wt:=(y.ds.map (wtD y)).flatten
def zTc (s:Sg) {n p:Nat} (h:p<n):(QL s n n).getD p default=coT (xJ s.c p):=by
 unfold QL;rw[yAg,vQ,zZ8 (by rw[yB0];exact h),zZ8 h];rfl
def zNn (s:Sg) (n:Nat):(QL s n n).length=n:=by unfold QL;rw[wP,yB0]
structure WtO (y:Cy) (w:Wt) (k p:Nat):Prop where
 j:w.jn=(k:Int)
 kn:k<y.c.js.length
 pn:p<(y.c.js.getD k default).ph.length
 a:AtW y.ds w (p:Int)
 n:w.si≠ -1
 l:(y.sg.getD k default).lat=false
 g:¬(0<=(y.sv.getD k default).ph/\(xJ (y.sg.getD k default).c p).lamp=1)
def zGh {y:Cy} (h:XS y) {ins:List In} {R:Nat->DR} (hR:TkR y ins R) {w:Wt} (hw:w∈wtL (qI y R)):∃k p,WtO (qI y R) w k p/\w.si<=y.now+1/\∀x∈vV (k:Int) (qI y R).ds,jW x.k=false:=by
 have hZ:=MN h hR;unfold wtL at hw;obtain⟨l1,h1,hw⟩:=yCn.1 hw;obtain⟨d,hd,rfl⟩:=yA5.1 h1;obtain⟨l2,h2,hw⟩:=yCn.1 hw;obtain⟨r,hr,rfl⟩:=yA5.1 h2;obtain⟨l3,h3,hw⟩:=yCn.1 hw;obtain⟨g,hg,rfl⟩:=yA5.1 h3;unfold BO at hw;split at hw
 ·cases hw
 rename_i hs;split at hw
 ·cases hw
 rename_i hj;split at hw
 ·cases hw
 rename_i hc;split at hw
 ·cases hw
 rename_i hcd;rw[yA8]at hw;subst hw;obtain⟨k,hk⟩:∃k:Nat,g.jn=k:=⟨g.jn.toNat,zB⟩;have hwl:(qI y R).vw.length=y.c.js.length:=hZ.wl;have hkn:k<y.c.js.length:=by omega
 obtain⟨e1,e2,e3⟩:=AL h R hkn;have hI:=hZ.di d hd;have ho:=(hI.v.ok r hr).lg;unfold NW at ho;rw[yAk]at ho;have hlv:=KI ho.2 g hg;unfold NG at hlv;rw[yAc]at hlv;have hlg:=(hI.lg r hr g hg).2;rw[hk,yAx]at hlg;have hlg:g.ph<((y.c.js.getD k default).ph.length:Int):=hlg;obtain⟨p,hp⟩:∃p:Nat,g.ph=p:=⟨g.ph.toNat,zB⟩;have hsn:=hZ.sc d hd r hr g hg;rw[hk,yAx]at hc;unfold wcB at hc;rw[Bool.not_eq_false,yAk,e3]at hc;obtain⟨hc1,hc2⟩:=hc
 have hlat:(SA y R k).1.lat=false:=by
  cases hl:(SA y R k).1.lat with
  |false=>rfl
  |true=>
   exfalso;unfold MS at hc1;rw[zZ8 hl]at hc1;exact yAs hc1
 have hlive:DE g (y.now+1)=true:=by
  obtain⟨a,ha,rfl⟩:=aP hd;exact(hR a ha).1.lv r hr g hg hs
 refine⟨k,p,⟨hk,hkn,by show p<(y.c.js.getD k default).ph.length;omega,⟨d,hd,rfl,r,hr,rfl,g,hg,rfl,rfl,hp⟩,hs,by rw[e1];exact hlat,λhgr=>hcd ?_⟩,hsn,λx hx=>?_⟩
 ·rw[e1,e2]at hgr;unfold cdF;rw[zZ8 ⟨hlive,zB,zB⟩,hk,yAx,e3];unfold MS;rw[zZ7 (by rw[hlat];exact yAs)];unfold cdW;dsimp only;rw[zNn,zZ8 ⟨zB,zB⟩,hp,yAx,zTc _ zB,zZ8];refine⟨by rw[yCg];omega,rfl,?_⟩;unfold coT;rw[hgr.2];rfl
 ·rw[yCe]at hc2
  cases he:jW x.k with
  |false=>rfl
  |true=>rw[yBo.2 ⟨x,hx,he⟩]at hc2;cases hc2
structure WtI (y:Cy) (w:Wt) (m:Nat):Prop where
 o:1<=m
 s:w.si<=y.now-m+1
 x:∃k p,WtO y w k p/\WI y.c (y.c.js.getD k default) (RA y.c.ags y.c.ags.length) (vV (k:Int) y.ds) (y.sg.getD k default).c (y.sv.getD k default) p (y.now-m+1) y.now
theorem WtI.same {y y':Cy} (hc:y'.c=y.c) (hn:y'.now=y.now) (hg:y'.sg=y.sg) (hv:y'.sv=y.sv) (hd:y'.ds.map GB=y.ds.map GB) {w:Wt} {m:Nat} (I:WtI y w m):WtI y' w m:=by
 obtain⟨i1,i2,k,p,⟨a,b,c,d,e,f,g⟩,i3⟩:=I;refine⟨i1,by rw[hn];exact i2,k,p,⟨a,by rw[hc];exact b,by rw[hc];exact c,d.dq hd.symm,e,by rw[hg];exact f,by rw[hg,hv];exact g⟩,?_⟩;rw[hc,hn,hg,hv,zTf hd];exact i3
theorem VT.cn {c:Cf} (h:VT c):CfN c:=⟨h.h.1,h.h.2,h.cp.1,h.p.1,h.l.1⟩
theorem WtI.first {y:Cy} (h:XS y) {ins:List In} {R:Nat->DR} (hR:TkR y ins R) {w:Wt} (hw:w∈wtL (qI y R)):WtI (qI y R) w 1:=by
 have hZ:=MN h hR;obtain⟨k,p,O,hs,_⟩:=zGh h hR hw;have hn:(qI y R).now=y.now+1:=rfl;have n0:=h.n0;have hJ:=hZ.j k O.kn;have l0:=h.v.l.1;have h9:(qI y R).c.lock=y.c.lock:=rfl;refine⟨yAb _,zB,k,p,O,zB,?_,λhA=>?_⟩
 ·have:=zCf (m:=(qI y R).now) (λe he=>(hJ.e e he).2) zB (p:Int);omega
 ·unfold nsA at hA;omega
theorem WtI.next {y:Cy} (h:XS y) (W:AK y) {ins:List In} {R:Nat->DR} (hR:TkR y ins R) {w:Wt} {m:Nat} (I:WtI y w m) (hw:w∈wtL (qI y R)):WtI (qI y R) w (m+1):=by
 have hZ:=MN h hR;obtain⟨k,p,O,hs,hem⟩:=zGh h hR hw;obtain⟨i1,i2,k',p',O',H⟩:=I;have hn:(qI y R).now=y.now+1:=rfl;have n0:=h.n0;have ekk:k'=k:=by have:=O.j;have:=O'.j;omega
 subst ekk;have hk:=O'.kn
 have hback:AtW y.ds w (p:Int):=by
  obtain⟨d,hd,a1,r,hr,a2,g,hg,a3,a4,a5⟩:=O.a;obtain⟨d0,b1,b2,r0,b3,b4,_,g0,b5,b6,b7,b8⟩:=FE h W hR hd hr hg (by rw[a4];exact O.n) zB;exact⟨d0,b1,b2.trans a1,r0,b3,b4.trans a2,g0,b5,b6.trans a3,b8.trans a4,b7.trans a5⟩
 have epp:p'=p:=by have:=AtW.uniq h W O'.a hback;omega
 subst epp;obtain⟨e1,e2,_⟩:=AL h R hk;have J:=h.v.jv _ (zP y.c.js k' hk);have hJ:=h.j k' hk
 have es:(XT y.c y.sg (aQ R y.ds.length)).getD k' default=y.sg.getD k' default:=by
  rcases zG5 y.c k' (aQ R y.ds.length) y.sg (by have:=h.gl;omega)with e|⟨e3,_⟩
  ·exact e
  ·rw[O'.l]at e3;cases e3
 have eD:=zG6 y R k';rw[es]at eD;have hcl:=zG4 hZ (k:=k') hk
 have hlen:=zB4 (k:=(k':Int)) (ds:=(qI y R).ds) (ags:=y.c.ags) hZ.dl (λa ha=>by
  have:=(hZ.di _ (zP _ a ha)).q;rw[hZ.dg a ha]at this
  exact this) _ (yAb _)
 rw[yAf]at hlen;have hds:(qI y R).ds.length=y.c.ags.length:=hZ.dl;rw[hds]at hlen
 have hlat:(cF y.c (y.c.js.getD k' default) (y.sg.getD k' default) (y.sv.getD k' default) (vV (k':Int) (qI y R).ds) (y.st.getD k' default) (y.now+1)).1.lat=false:=by
  rw[<-eD,<-e1];exact O.l
 have hx:∃x∈vV (k':Int) (qI y R).ds,x.ph=(p':Int)/\x.si<=y.now-m+1:=by
  obtain⟨d,hd,a1,r,hr,a2,g,hg,a3,a4,a5⟩:=O.a;have hv:=((hZ.di d hd).v.ok r hr).lg;exact⟨_,zG3 hd hr hg hv (a3.trans O.j) (by rw[a4];exact O.n),a5,by dsimp only;rw[a4];exact i2⟩
 have S:=WI.step J h.v.cn hJ.c (W.w k' hk) O'.pn (λe he=>(hJ.e e he).2) hJ.n zB hJ.g hlat H O'.g (λx hx=>(hcl x hx).1) hem (λx hx=>(hcl x hx).2) hlen hx (zG7 h W hR (k':Int));refine⟨zB,zB,k',p',O,?_⟩;rw[e1,e2,eD,show(qI y R).now-((m+1:Nat):Int)+1=y.now-m+1 by omega];exact S
def VW (g:Cf) (k:Nat):Int:=g.lock+g.cap*g.per+(min (RA g.ags g.ags.length) ((g.js.getD k default).ph.length)+2)*(ZP (g.js.getD k default)+g.hold+2)
theorem KB {l:List Ag} (h:∀a∈l,0<=a.req):∀i,i<=l.length->0<=RA l i
 |0,_=>yB6 _
 |i+1,hi=>by
  have:=KB h i zB;have:=h _ (zP l i zB);unfold RA;omega
theorem WtI.bound {y:Cy} (h:XS y) {w:Wt} {m:Nat} (I:WtI y w m):∃k,k<y.c.js.length/\(m:Int)<VW y.c k:=by
 obtain⟨i1,_,k,p,O,H⟩:=I;have J:=h.v.jv _ (zP y.c.js k O.kn);have hR:=KB (l:=y.c.ags) (λa ha=>by have:=(h.v.av a ha).q;omega) _ (yAb _);have b:=H.bound J h.v.cn hR;refine⟨k,O.kn,?_⟩;unfold nsN nsD at b;unfold VW;rw[Int.min_comm];omega
def KC (w:Wt):AV:= .agg [iA w.ag,iA w.id,iA w.jn,iA w.si]
def AH (y:Cy) (hrf:y.rf=false) (j:Int) (hd:y.ds.length<=1000) (hb:∀d∈y.ds,fI d):zN 86 [uC y,iA j] [] (zD gW (vV j y.ds)) []:=by
 have hl:=zA zI y.ds;have eC:uC y= .agg [zD wJ y.c.js,zD wK y.c.ags,iA y.c.per,iA y.c.cap,iA y.c.hold,iA y.c.lock,bA false,iA y.now,zD zI y.ds,zD wX y.sg,zD wU y.sv,zD iA y.st,zD vO y.vw]:=by rw[<-hrf];rfl
 rw[eC];refine eM Tryz.call86 λF hF=>?_
 refine WW ?_;refine yZ 5 1001 5 Z Z Z ?_;refine yL (y.ds) [1001] [] [1,9,10] [5,11,1,9,10] Z (λi pre T U=>⟨(5,.ref 1001 0 ((vV j pre).map gW).length)::(11,iA i)::T,(1001,.arr 5 ((vV j pre).map gW) true)::U⟩) ?_;(conv=>whnf);refine⟨by rfl,?_,?_⟩
 ·intro i pre x post hx hi;have hy:=xI zI hx hi;have hlt:=yN hx hi;have hbx:=hb x (wR hx);have kx:=MT x.rq x.rg.num j hbx.q hbx.g;have hq:=XV j pre (λd hd=>(hb d (by rw[hx];simp[hd])).q);have hql:((vV j pre).map gW).length=(vV j pre).length:=zZ9 ..;have hq2:=fQ x.rg.num j x.rq;have hq3:((gR x.rg.num j x.rq).map gW).length=(gR x.rg.num j x.rq).length:=zZ9 ..;have hpl:pre.length<=y.ds.length:=by rw[hx];simp
  have hxq:=hbx.q;rw[UE,yAi];clear hx;generalize (vV j pre).map gW=X at *;unfold zD at kx;generalize gR x.rg.num j x.rq=Y at *;unfold zI wC at hy;refine zV kx ?_;rfl
 ·(refine WW ?_)
  exact zK [] Z Z (yA6 (AV.sl false) yAf) Z
def cwL (y:Cy) (n i:Nat):List Bool:=bB (λk _=>wcB y k) (List.replicate n false) i
def SY (y:Cy) (d:yY) (r:Rq) (g:Lg):(BO y d r g).length<=1:=by
 unfold BO;split
 ·exact yAp _
 ·split
  ·exact yAp _
  ·split
   ·exact yAp _
   ·split
    ·exact yAp _
    ·exact yAb _
theorem kP {α β:Type} (f:α->List β) (n:Nat):∀l:List α,(∀x∈l,(f x).length<=n)->((l.map f).flatten).length<=n*l.length
 | [],_=>by simp
 |x::l,h=>by
  have h1:=h x zU;have h2:=kP f n l (λy hy=>h y (by simp[hy]));rw[yBb,yCp,yAd,yAl,Nat.mul_succ];omega
def VX {α β:Type} (f:α->List β) (l:List α) (x:α):((l++[x]).map f).flatten=(l.map f).flatten++f x:=by simp
def zGi (y:Cy) {n i k:Nat} (hk:k<n):(cwL y n i)[k]? =some (if k<i then wcB y k else false):=by
 unfold cwL;rw[vQ,yB0,zZ8 hk];by_cases h:k<i
 ·rw[zZ8 h,zZ8 h]
 ·rw[zZ7 h,zZ7 h,yAg,yB2,zZ8 hk];rfl
theorem zDz (y:Cy) (h:XS y):zN 47 [uC y] [] (zD KC (wtL y)) []:=by
 have hb:=h.b;have hrf:=h.rf;have hvl:=zA vO y.vw;have hdl:=zA zI y.ds;have hv4:y.vw.length<=4:=by have:=h.wl;have:=h.v.j;omega
 have hd4:y.ds.length<=4:=by have:=h.dl;have:=h.v.a;omega
 have kc:=λj=>AH y hrf j zB (λd hd=>(h.di d hd).bd)
 have hcn:=λj=>XV j y.ds (λd hd=>(h.di d hd).bd.q)
 have eC:uC y= .agg [zD wJ y.c.js,zD wK y.c.ags,iA y.c.per,iA y.c.cap,iA y.c.hold,iA y.c.lock,bA false,iA y.now,zD zI y.ds,zD wX y.sg,zD wU y.sv,zD iA y.st,zD vO y.vw]:=by rw[<-hrf];rfl
 rw[eC]at kc⊢;have hcl:∀i,((cwL y y.vw.length i).map bA).length=y.vw.length:=λi=>by unfold cwL;rw[zZ9,wP,yB0]
 have hDI:=h.di;have hWB:=h.wb;refine eM Tryz.call47 λF hF=>?_
 (repeat' (first|refine uL ?_|((first|apply xM|apply wA)<;>intro hc)|(refine zE ?_;first|(refine gB ?_;refine fZ 1031 tok Z Z Z Z Z Z Z Z Z Z Z Z Z zB zB Z Z Z ?_))|fail))
 rw[hvl];refine zO (y.vw.length) [1031,1] [1] [1,3,19,20] [21,1,3,19,20] Z (λi T U=>⟨(21,iA i)::T,(1031,.arr 1 ((cwL y y.vw.length i).map bA) false)::U⟩) ?_;(conv=>whnf);refine⟨by(unfold cwL;rw[qR];simp;rfl),?_,?_⟩
 ·intro i hi;have hy:=zM vO y.vw i hi;have hyc:((cwL y y.vw.length i).map bA)[i]? =some (bA false):=by rw[yAa,zGi y hi,zZ7 (yDx i)];rfl
  have e1:(cwL y y.vw.length (i+1)).map bA=((cwL y y.vw.length i).map bA).set i (bA (wcB y i)):=by
   rw[<-yB4]
   congr 1
   exact zCz _ _ _ zL2
  have hw:wcB y i=(!(y.vw.getD i default).fl&& !((vV (i:Int) y.ds).any λc=>jW c.k)):=rfl;have k1:=kc (i:Int);have k2:=XX (vV (i:Int) y.ds) (by have:=hcn (i:Int);omega);have h1:=hcl i;rw[e1];clear e1 kc hcn hcl hDI hWB;generalize (cwL y y.vw.length i).map bA=X at *;generalize wcB y i=wc at *;generalize y.vw.getD i default=v at *;obtain⟨fl,ov,co,cn⟩:=v;dsimp only at hw;cases fl
  ·rw[yEt,yAv]at hw;generalize ((vV (i:Int) y.ds).any λc=>jW c.k)=em at *;generalize vV (i:Int) y.ds=cl at *;subst hw;unfold vO at hy;dsimp only at hy;refine yR (vH k1 k2) ?_;rfl
  ·rw[yFf,yBy]at hw;subst hw;unfold vO at hy;dsimp only at hy;refine WW ?_;rfl
 ·have hca:∀k,k<y.vw.length->((cwL y y.vw.length y.vw.length).map bA)[k]? =some (bA (wcB y k)):=λk hk=>by
   rw[yAa,zGi y hk,zZ8 hk];rfl
  have hcl2:=hcl y.vw.length;clear kc hcn hcl;generalize (cwL y y.vw.length y.vw.length).map bA=CA at *;refine WW ?_;refine yZ 6 1041 4 Z Z Z ?_;refine yL (y.ds) [1041,1,1031] [1,1031] [1,3,41,42] [6,43,1,3,41,42] Z (λi pre T U=>⟨(6,.ref 1041 0 (((pre.map (wtD y)).flatten).map KC).length)::(43,iA i)::T,(1041,.arr 4 (((pre.map (wtD y)).flatten).map KC) true)::U⟩) ?_;(conv=>whnf);refine⟨by rfl,?_,?_⟩
  ·intro i pre d post hx hi;have hy:=xI zI hx hi;have hlt:=yN hx hi;have hI:=hDI d (wR hx);have hpl:pre.length<=y.ds.length:=by rw[hx];simp
   have hD:∀d'∈y.ds,(wtD y d').length<=12:=λd' hd'=>by
    have h1:=kP (AG y d') 3 d'.rq (λr hr=>by
     have h2:=kP (BO y d' r) 1 r.legs (λg _=>SY y d' r g);have h3:=(hDI d' hd').v.lg3 hr;unfold AG
     omega)
    have:=(hDI d' hd').v.n4;unfold wtD;omega
   have hA:=kP (wtD y) 12 pre (λx hx'=>hD x (by rw[hx];simp[hx']));rw[VX];have eD:wtD y d=(d.rq.map (AG y d)).flatten:=rfl;rw[eD];have hrq:=hI.v;have hql:=zA yG d.rq;have hAl:=zA KC ((pre.map (wtD y)).flatten);clear hx hDI hI eD hD;generalize (pre.map (wtD y)).flatten=A at *;unfold zI wC at hy;refine WW ?_;refine yL (d.rq) [1041,1,8,1031] [1,8,1031] [1,3,8,41,42,43,48,49] [6,50,1,3,8,41,42,43,48,49] Z (λi pre T U=>⟨(6,.ref 1041 0 ((A++(pre.map (AG y d)).flatten).map KC).length)::(50,iA i)::T,(1041,.arr 4 ((A++(pre.map (AG y d)).flatten).map KC) true)::U⟩) ?_;(conv=>whnf);refine⟨by(simp;rfl),?_,?_⟩
   ·intro j pre2 r post2 hx2 hj;have hy2:=xI yG hx2 hj;have hlt2:=yN hx2 hj;have hpl2:pre2.length<=d.rq.length:=by rw[hx2];simp
    have hR:∀r'∈d.rq,(AG y d r').length<=3:=λr' hr'=>by
     have h2:=kP (BO y d r') 1 r'.legs (λg _=>SY y d r' g);have h3:=hrq.lg3 hr';unfold AG;omega
    have hB:=kP (AG y d) 3 pre2 (λx hx'=>hR x (by rw[hx2];simp[hx']));have hr3:=hrq.lg3 (wR hx2);have hn4:=hrq.n4;rw[VX,<-yA7];have eR:AG y d r=(r.legs.map (BO y d r)).flatten:=rfl;rw[eR];have hll:=zA xP r.legs;have hBl:(A++(pre2.map (AG y d)).flatten).length<=100:=by rw[yAd];omega
    have hBm:=zA KC (A++(pre2.map (AG y d)).flatten);clear hx2 hrq eR hR hB;generalize A++(pre2.map (AG y d)).flatten=B at *;unfold yG at hy2;refine WW ?_;refine yL (r.legs) [1041,1,8,10,1031] [1,8,10,1031] [1,3,8,10,41,42,43,48,49,50,55,56] [6,57,1,3,8,10,41,42,43,48,49,50,55,56] Z (λi pre T U=>⟨(6,.ref 1041 0 ((B++(pre.map (BO y d r)).flatten).map KC).length)::(57,iA i)::T,(1041,.arr 4 ((B++(pre.map (BO y d r)).flatten).map KC) true)::U⟩) ?_;(conv=>whnf);refine⟨by(simp;rfl),?_,?_⟩
    ·intro q pre3 g post3 hx3 hq;have hy3:=xI xP hx3 hq;have hlt3:=yN hx3 hq;have hpl3:pre3.length<=r.legs.length:=by rw[hx3];simp
     have hC:=kP (BO y d r) 1 pre3 (λx _=>SY y d r x);have kcd:=zJ5 g y.vw y.now zB (λw hw=>by have:=(hWB w hw).n;omega);rw[VX,<-yA7];have hCl:(B++(pre3.map (BO y d r)).flatten).length<=110:=by rw[yAd];omega
     have hCm:=zA KC (B++(pre3.map (BO y d r)).flatten);clear hx3 hC;generalize B++(pre3.map (BO y d r)).flatten=C at*
     have eG:BO y d r g=if g.sc= -1 then []else if g.jn<0∨(y.vw.length:Int)<=g.jn then []else if wcB y g.jn.toNat=false then []else if cdF g y.vw y.now=3 then []else [⟨d.rg.num,r.id,g.jn,g.sc⟩]:=rfl
     generalize cdF g y.vw y.now=cd at *;generalize BO y d r g=G at *;unfold xP at hy3 kcd;by_cases h1:g.sc= -1
     ·rw[zZ8 h1]at eG;rw[eG,yBc];refine WW ?_;rfl
     rw[zZ7 h1]at eG;by_cases h2:g.jn<0
     ·rw[zZ8 (.inl h2)]at eG;rw[eG,yBc];refine WW ?_;rfl
     by_cases h3:(y.vw.length:Int)<=g.jn
     ·rw[zZ8 (.inr h3)]at eG;rw[eG,yBc];refine WW ?_;rfl
     rw[zZ7 (λh=>h.elim h2 h3)]at eG;have hyk:=hca g.jn.toNat zB;generalize wcB y g.jn.toNat=wc at *;cases wc
     ·rw[zZ8 Z]at eG;rw[eG,yBc];refine WW ?_;rfl
     rw[zZ7 (λh=>Bool.noConfusion h)]at eG;by_cases h4:cd=3
     ·rw[zZ8 h4]at eG;rw[eG,yBc];refine zV kcd ?_;rfl
     ·rw[zZ7 h4]at eG;rw[eG,show(C++[(⟨d.rg.num,r.id,g.jn,g.sc⟩:Wt)]).map KC=C.map KC++[KC ⟨d.rg.num,r.id,g.jn,g.sc⟩] by rw[yAi];rfl];generalize C.map KC=CC' at *;refine zV kcd ?_;rfl
    ·(refine WW ?_)
     rfl
   ·(refine WW ?_)
    rfl
  ·(refine WW ?_)
   exact zK [] Z Z (yA6 (AV.sl false) yAf) Z
def ZI (l:List Int):Value:= .agg (l.map (Value.int .i64)).toArray
def zD0 {α:Type} {l:List α} {i:Nat} {x:α} (h:l[i]? =some x):l.set i x=l:=by
 apply yBi;intro j;rw[yB8];split
 ·rename_i e;subst e;rw[zZ8 (yAu.1 h).1,h]
 ·rfl
def fE (es:List (List Int×Int)) (o:Obj):Prop:=
 ∃arr clk,o= .map arr clk/\arr.toList.map (λe=>(e.key,e.val))=es.map (λp=>(ZI p.1,Value.int .i64 p.2))/\(∀e∈arr.toList,e.born<clk)/\(arr.toList.map (·.born)).Nodup
section
variable {P:Program} {TT:List TI} (hP:uI P TT) (w:World)
include hP
theorem GV (em:Bool) (n:Nat) (xs:Array Value):∀fs:List Field,(∀f∈fs,∃ti m,TT[f.type]? =some ti/\ti.d= .int .i64/\xs[f.offset]? =some (.int .i64 m))->
  (forIn fs PUnit.unit (λf _=>(do
   if f.name≠ "_" then Instr.checkKey em (n+1) f.type (<-part f.type xs f.offset)
   pure (ForInStep.yield PUnit.unit):Sem (ForInStep PUnit)))).run P w= .ok PUnit.unit w
 | [],_=>by simp
 | f::fs,h=>by
  obtain⟨ti,m,h1,h2,h3⟩:=h f zU;have ih:=GV em n xs fs (λg hg=>h g (by simp[hg]));obtain⟨_,u,_,_,hu,_,hdd,_⟩:=wN (hP _ _ h1);obtain rfl:=UX (hdd.symm.trans h2);have a1:=TA (off:=f.offset) hP h1 h2 w h3
  have a2:(Instr.checkKey em (n+1) f.type (.int .i64 m)).run P w= .ok () w:=by
   simp[Instr.checkKey,dU w hu]
  rw[List.forIn_cons];by_cases hn:f.name= "_"
  ·simp only[hn,yC7,yEs,yFi,Sem.run_bind,Sem.run_pure,Result.andThen_ok];exact ih
  ·simp only[hn,yC7,yEr,yE2,Sem.run_bind,a1,a2,Sem.run_pure,Result.andThen_ok];exact ih
structure KD (P:Program) (TT:List TI) (kt n:Nat):Prop where
 ti:∃ti fl,TT[kt]? =some ti/\ti.d= .str fl/\TX TT 0 fl=true/\fl.length=n
 st:P.stoodInHeld kt=false
 nm:((P.fieldsOf kt).toList.all λf=>f.name != "_")=true
theorem KD.fs {kt n:Nat} (K:KD P TT kt n):P.underlying kt=some (.struct (P.fieldsOf kt))/\TX TT 0 ((P.fieldsOf kt).toList.map λf=>(f.offset,f.type))=true/\(P.fieldsOf kt).toList.length=n:=by
 obtain⟨ti,fl,h1,h2,h3,h4⟩:=K.ti;obtain⟨_,u,_,_,hu,_,hdd,_⟩:=wN (hP _ _ h1);obtain⟨f,rfl,hfe⟩:=HA (hdd.symm.trans h2);have hfo:P.fieldsOf kt=f:=by unfold Program.fieldsOf;rw[hu]
 rw[hfo];exact⟨hu,by rw[hfe];exact h3,by rw[<-h4,<-hfe];simp⟩
omit hP in
def zGj {l:List Int} (i:Nat) (hi:i<l.length):((l.map (Value.int .i64)).toArray)[0+i]? =some (.int .i64 (l.getD i 0)):=by
 simp[List.getD,hi]
def zNo {kt n:Nat} (K:KD P TT kt n) {l m:List Int} (hl:l.length=n) (hm:m.length=n):(Op.equal kt (ZI l) (ZI m)).run P w= .ok (l==m) w:=by
 obtain⟨h1,h2,h3⟩:=K.fs hP;have hrun:=cR hP 9998 w (l.map (Value.int .i64)).toArray (m.map (Value.int .i64)).toArray (P.fieldsOf kt).toList 0 l m h2 K.nm zB zB (λi hi=>zGj i hi) (λi hi=>zGj i hi)
 show(Op.equalIn 10000 kt _ _).run P w=_
 rw[show(10000:Nat)=9999+1 from Z];unfold ZI;rw[run_equalIn_agg w 9999 kt _ _ h1 K.st];exact hrun
omit hP in
theorem GW:∀{fl:List (Nat×Nat)} {o:Nat},TX TT o fl=true->∀p∈fl,(∃ti,TT[p.2]? =some ti/\ti.d= .int .i64)/\o<=p.1/\p.1<o+fl.length
 | [],_,_,p,hp=>by cases hp
 | (a,b)::r,o,h,p,hp=>by
  simp only[TX,yAk]at h;obtain⟨h1,h2,h3⟩:=h;have h1:=yA2 h1
  rcases yBd.1 hp with rfl|hp
  ·refine⟨?_,by dsimp only;omega,by dsimp only;rw[yAl];omega⟩;split at h2
   ·rename_i ti hti;split at h2
    ·rename_i hd;exact⟨ti,hti,hd⟩
    ·cases h2
   ·cases h2
  ·obtain⟨a1,a2,a3⟩:=GW h3 p hp;exact⟨a1,zB,by rw[yAl];omega⟩
def zNp {kt n:Nat} (K:KD P TT kt n) {l:List Int} (hl:l.length=n) (em:Bool):(Instr.checkKey em 10000 kt (ZI l)).run P w= .ok () w:=by
 obtain⟨h1,h2,h3⟩:=K.fs hP
 have h:=GV hP w em 9998 (l.map (Value.int .i64)).toArray (P.fieldsOf kt).toList (λf hf=>by
  obtain⟨⟨ti,a1,a2⟩,a3,a4⟩:=GW h2 (f.offset,f.type) (yA5.2 ⟨f,hf,rfl⟩);dsimp only at a1 a3 a4;rw[zZ9]at a4;have:=zGj (l:=l) f.offset zB;rw[yBu]at this
  exact⟨ti,_,a1,a2,this⟩)
 unfold ZI;rw[show(10000:Nat)=9999+1 from Z,Instr.checkKey];simp only[Sem.run_bind,dU w h1,Result.andThen_ok];rw[<-Array.forIn_toList];refine(yA6 (λr=>Result.andThen r (λa w'=>Sem.run P (pure ()) w')) h).trans ?_;simp
def lkK (l:List Int):List (List Int×Int)->Nat->Option (Nat×Value)
 | [],_=>none
 |p::r,i=>if l=p.1 then some (i,.int .i64 p.2)else lkK l r (i+1)
theorem GX {kt n:Nat} (K:KD P TT kt n) {l:List Int} (hl:l.length=n):∀(ps:List (List Int×Int)) (es:List MapEntry) (i:Nat),es.map (λe=>(e.key,e.val))=ps.map (λp=>(ZI p.1,Value.int .i64 p.2))->(∀p∈ps,p.1.length=n)->
  (Instr.findAsking kt (ZI l) es i).run P w= .ok (lkK l ps i) w
 | [],[],i,_,_=>by simp[Instr.findAsking,lkK]
 | [],e::es,i,h,_=>by simp at h
 |p::ps,[],i,h,_=>by simp at h
 | p::ps,e::es,i,h,hn=>by
  simp only[yBb,yF6,yB1]at h;obtain⟨⟨h1,h2⟩,h3⟩:=h;have ih:=GX K hl ps es (i+1) h3 (λq hq=>hn q (by simp[hq]));have he:=zNo hP w K hl (hn p zU);rw[<-h1]at he;unfold Instr.findAsking lkK;simp only[Sem.run_bind,he,Result.andThen_ok];by_cases hlp:l=p.1
  ·rw[zZ8 hlp,hlp,yF4,h2];simp
  ·rw[zZ7 hlp];have:(l==p.1)=false:=by simpa using hlp
   rw[this];simpa using ih
def zNq {kt n:Nat} (K:KD P TT kt n) {l:List Int} (hl:l.length=n) (ps:List (List Int×Int)) (es:List MapEntry) (h:es.map (λe=>(e.key,e.val))=ps.map (λp=>(ZI p.1,Value.int .i64 p.2))) (hn:∀p∈ps,p.1.length=n):
  (Instr.findKey kt (ZI l) es).run P w= .ok (lkK l ps 0) w:=by
 obtain⟨h1,_,_⟩:=K.fs hP;unfold Instr.findKey;simp only[Sem.run_bind,dU w h1,Result.andThen_ok]
 cases es with
 |nil=>
  cases ps with
  |nil=>simp[Instr.findNow,lkK]
  |cons p ps=>simp at h
 | cons e es=>
  have:Instr.findNow (.struct (P.fieldsOf kt)) (ZI l) (e::es) 0=none:=by
   unfold Instr.findNow Instr.sameNow;rfl
  rw[this];exact GX hP w K hl ps (e::es) 0 h hn
omit hP in
def zW6 (l:List Int):Instr.sameBits 10000 (ZI l) (ZI l)=true:=by
 unfold ZI;rw[show(10000:Nat)=9999+1 from Z,Instr.sameBits];simp only[yF4,yAv];rw[yAm];intro p hp
 have:p.1=p.2/\∃n,p.1= .int .i64 n:=by
  obtain⟨i,hi,rfl⟩:=yDe.1 hp;simp
 obtain⟨h1,m,h2⟩:=this;rw[<-h1,h2];simp[Instr.sameBits]
def bK (l:List Int) (v:Int):List (List Int×Int)->List (List Int×Int)
 | []=>[(l,v)]
 |p::r=>if l=p.1 then(l,v)::r else p::bK l v r
omit hP in
theorem GY {l:List Int} {v:Int}:∀{ps:List (List Int×Int)} {i j:Nat} {x:Value},lkK l ps i=some (j,x)->i<=j/\(∃y,ps[j-i]? =some (l,y))/\bK l v ps=ps.set (j-i) (l,v)
 | [],_,_,_,h=>by cases h
 | p::r,i,j,x,h=>by
  unfold lkK at h;split at h
  ·rename_i e;cases h;refine⟨yAb _,⟨p.2,by rw[yB9,e];rfl⟩,?_⟩;unfold bK;rw[zZ8 e,yB9];rfl
  ·rename_i e;obtain⟨h1,⟨y,h2⟩,h3⟩:=GY h;have hj:j-i=(j-(i+1))+1:=by omega
   refine⟨zB,⟨y,by rw[hj];exact h2⟩,?_⟩;unfold bK;rw[zZ7 e,h3,hj];rfl
omit hP in
theorem GZ {l:List Int} {v:Int}:∀{ps:List (List Int×Int)} {i:Nat},lkK l ps i=none->bK l v ps=ps++[(l,v)]
 | [],_,_=>rfl
 |p::r,i,h=>by
  unfold lkK at h;split at h
  ·cases h
  ·rename_i e;unfold bK;rw[zZ7 e,GZ h];rfl
def zNr {T kt et n b:Nat} {o:Obj} {es:List (List Int×Int)} (K:KD P TT kt n) (hT:P.underlying T=some (.map kt et)) (hb:w.heap[b]? =some o) (ho:fE es o) (hn:∀p∈es,p.1.length=n) {l:List Int} (hl:l.length=n) (v:Int):
  ∃o',(Instr.mapUpdate T (.map (some b)) (ZI l) (.int .i64 v)).run P w= .ok () (ChangeMaps.setBlock w b o')/\fE (bK l v es) o':=by
 obtain⟨arr,clk,rfl,h1,h2,h3⟩:=ho;have hf:=zNq hP w K hl es arr.toList h1 hn;have hset:∀o',(setObj b o').run P w= .ok () (ChangeMaps.setBlock w b o'):=λo'=>by simp[setObj,Sem.run,hb,ChangeMaps.setBlock]
 unfold Instr.mapUpdate;simp only[Sem.run_bind,dU w hT,Result.andThen_ok,MapKept.run_getObj_map hb,zNp hP w K hl,hf]
 cases hk:lkK l es 0 with
 | none=>
  refine⟨_,hset _,arr.push {key:=ZI l,val:= .int .i64 v,born:=clk},clk+1,rfl,?_,λe he=>?_,?_⟩
  ·rw[GZ hk,yFz,yAi,yAi,h1];rfl
  ·rw[yFz]at he
   rcases yAw.1 he with he|he
   ·have:=h2 e he;omega
   ·rw[yA8.1 he];exact yF3 _
  ·rw[yFz,yAi,List.nodup_append];refine⟨h3,by simp,λa ha b hb2=>?_⟩;obtain⟨e,he,rfl⟩:=yA5.1 ha;have:=h2 e he;simp at hb2;omega
 | some q=>
  obtain⟨j,x⟩:=q;obtain⟨_,⟨y,a2⟩,a3⟩:=GY (v:=v) hk;rw[yFc]at a2 a3
  have hjl:j<arr.toList.length:=by
   have e1:=yA6 List.length h1;rw[zZ9,zZ9]at e1;have:=(yAu.1 a2).1;omega
  have hja:j<arr.size:=by simpa using hjl
  have hkey:arr[j].key=ZI l:=by
   have:=yA6 (λz=>z[j]?) h1;simp only[yAa,a2,Option.map_some]at this;rw[show arr.toList[j]? =some arr[j] by simp[hja]]at this;simp at this;exact this.1
  have hks:(Instr.keyThatStays (((arr[j]?).map (·.key)).getD (ZI l)) (ZI l)).run P w= .ok (ZI l) w:=by
   rw[yDs hja,Option.map_some,yCd,hkey];unfold Instr.keyThatStays;rw[zW6];simp
  dsimp only;simp only[Sem.run_bind,hks,Result.andThen_ok]
  have hm:(arr.modify j λe=>{e with key:=ZI l,val:= .int .i64 v}).toList=arr.toList.set j {arr[j]with key:=ZI l,val:= .int .i64 v}:=by
   rw[Array.toList_modify];exact ChangeMaps.modify_eq_set _ _ _ _ (by simp[hja])
  have hb2:(arr.toList.set j {arr[j]with key:=ZI l,val:= .int .i64 v}).map (·.born)=arr.toList.map (·.born):=by
   rw[yB4];refine zD0 (yAa.trans ?_);simp[hja]
  refine⟨_,hset _,_,clk,rfl,?_,λe he=>?_,?_⟩
  ·rw[a3,hm,yB4,yB4,h1]
  ·rw[hm]at he;have:e.born∈(arr.toList.set j {arr[j]with key:=ZI l,val:= .int .i64 v}).map (·.born):=yA5.2 ⟨e,he,rfl⟩;rw[hb2]at this;obtain⟨e',he',e2⟩:=yA5.1 this;rw[<-e2];exact h2 e' he'
  ·rw[hm,hb2];exact h3
end
def noC:Obj->Bool
 | .cells .. =>false
 |_=>true
def zGk {w:World} {b:Nat} {o:Obj} (h:w.heap[b]? =some o) (ho:noC o=true):w.shape? b=none:=by
 unfold World.shape?;rw[h]
 cases o<;>first|rfl|(simp[noC]at ho)
def zNs {w:World} {b:Nat} {o o':Obj} (h:w.heap[b]? =some o):(ChangeMaps.setBlock w b o').heap[b]? =some o':=by
 have:=(yCk.1 h).1;simp[ChangeMaps.setBlock,this]
def zGl {w:World} {b:Nat} {o':Obj} {i:Nat} (h:i≠b):(ChangeMaps.setBlock w b o').heap[i]? =w.heap[i]? :=by
 simp[ChangeMaps.setBlock,Array.getElem?_setIfInBounds,Ne.symm h]
theorem yX.setObj {X:Nat->Prop} {h:yC} {β:vP} {w:World} (H:qV X h β w) {k b:Nat} {p:Obj->Prop} (hk:h k=some (.obj (b,p))) {o o':Obj} (hb:w.heap[b]? =some o) (ho:noC o=true) (ho':noC o'=true) {p':Obj->Prop} (hp:p' o'):
  yX X w h β (ChangeMaps.setBlock w b o') (over [(k,.obj (b,p'))] h) (dI β k [(b,0)]):=by
 obtain⟨g1,_⟩:=H.ent k _ hk;have hs:=zNs (o':=o') hb;refine yX.step H k _ _ (by simp[ChangeMaps.setBlock]) (λi _ hn=>zGl λe=>hn 0 (by rw[g1,e];exact yA8.2 Z)) Z Z Z (λb' n hm=> .inl ⟨n,by rw[g1];exact hm⟩) (λb' n hm=>?_) (λe he=>?_) (λE=>⟨zZ _ _ _,o',hs,hp⟩)
 ·rw[g1]at hm;cases yA8.1 hm;unfold wB;rw[zGk hs ho',zGk hb ho]
 ·rw[hk]at he;cases he;exact .inr ⟨⟨_,rfl⟩,λb' n hm=>by rw[g1]at hm;exact hm⟩
theorem yX.newObj {X:Nat->Prop} {h:yC} {β:vP} {w:World} (H:qV X h β w) {k:Nat} (hk:h k=none) (o:Obj) {p:Obj->Prop} (hp:p o):
  yX X w h β (w.alloc o) (over [(k,.obj (w.heap.size,p))] h) (dI β k [(w.heap.size,0)]):=by
 refine yX.step H k _ _ zU (λb hb _=>(yFo (xs:=w.heap) (x:=o)).trans (zZ7 (Nat.ne_of_lt hb))) Z Z Z (λb n hm=>?_) (λb n hm=>?_) (λe he=>?_) (λE=>⟨zZ _ _ _,o,(yFo (xs:=w.heap) (x:=o)).trans (zZ8 Z),hp⟩)
 ·simp at hm;refine .inr ?_;simp[hm.1]
 ·rw[H.off k hk]at hm;simp at hm
 ·rw[hk]at he;cases he
def KE (b:Nat) (o0:Obj) (cur:Option (List Int×Int)) (L:List (List Int×Int)) (o:Obj):Prop:=
 ∃arr clk seen,o0= .map arr clk/\o= .mapIter (some b) clk seen clk/\(arr.toList.filter λe=>!seen.contains e.born).map (λe=>(e.key,e.val))=L.map (λp=>(ZI p.1,Value.int .i64 p.2))/\
  ∀p,cur=some p->∃e∈arr.toList,(∃s0:Array Nat,seen=s0.push e.born)/\(e.key,e.val)=(ZI p.1,Value.int .i64 p.2)
section
variable {P:Program} {TT:List TI} {K0:List Nat} {F:Fr K0} {m:Nat} {dst:Option Nat} {ops:Array Oper} {rest:List Oper} {fs:List FP} {Q:List FP->St->Prop} {tm:List (Nat×AV)} {h:List (Nat×xN)} {op:Op} {ty:Nat} {pos:String} {after:Array Edge} {t:Nat} {r nw:List Nat} {O:AV->List (Nat×xN)->Prop}
def zGm:Option Nat->AV->List (Nat×AV)->List (Nat×AV)
 |some t,v,tm=>(t,v)::tm
 |none,_,tm=>tm
def zGn (hs:∀(o:Oper) (X:Nat->Prop) (a:Act) (w:World) (β:vP),o.op=op->qV X (zC h) β w->(∀t,zQ w (xK X β) (zC h) β (zG tm t) (a.eval (.tmp t)))->
      dH P (λc w'=>∃v d,O v d/\∃β',yX X w (zC h) β w' (over d (zC h)) β'/\zQ w' (xK X β') (over d (zC h)) β' v c) ((execOp a.eval o).run P w))
    (hm:∀t,dst=some t->Nat.blt t m=true) (hd:∀v d,O v d->vJ d=true) (hk:∀v d,O v d->zX P F m ops false rest ⟨zGm dst v tm,d++h⟩ fs Q):
    zX P F m ops false (⟨dst,op,ty,pos,after,none⟩::rest) ⟨tm,h⟩ fs Q:=⟨λa w R=>wpListIn_plain Z λK hK=>by
  obtain⟨⟨X,β,hX,HH,Ht,KK,hJ,hD⟩,nd,gs,hl⟩:=R;refine dH.wp (hs ⟨dst,op,ty,pos,after,none⟩ X a w β rfl HH Ht) ?_;rintro c w' ⟨v,d,hO,β',G,hc⟩;have hdd:=hd v d hO
  have nd':∀k,over d (zC h) k≠some .dead:=λk=>by
    unfold over;split
    · rename_i e he;intro h4;cases h4;exact uG hdd he
    · exact nd k
  refine hK _ _ ((hk v d hO).run _ _ ?_);have R':=XF.put hX HH Ht KK hJ hD gs hl G nd' hc dst (λj hj=>yAq (hm j hj))
  have e1:zG (zGm dst v tm)=λj=>if dst=some j then v else zG tm j:=by
    cases dst with
    |none=>funext j;simp[zGm]
    |some t=>funext j;rw[zGm,yF];simp[yGe]
  show XF F m (zG (zGm dst v tm)) (zC (d++h)) _ _
  rw[e1,wQ]
  exact R'⟩
def zGo {w:World} {D:Nat->Prop} {hh:yC} {β:vP} {v c:Value} (h:zQ w D hh β (.s v) c):c=v:=by
 cases h with
 |fz _ _ hf=>cases hf;rfl
def zGp {w:World} {D:Nat->Prop} {hh:yC} {β:vP} {b:Nat} {o0:Obj} {c:Value} (h:zQ w D hh β (.fm (some b) λo=>o=o0) c):c= .map (some b)/\w.heap[b]? =some o0:=by
 cases h with
 | fz _ _ hf=>
  cases hf with
  |fm _ _ b' x ho _ _ hx hp=>
   obtain rfl:=ho b Z;exact⟨rfl,by rw[hx,hp]⟩
def zTd {w:World} {D:Nat->Prop} {hh:yC} {β:vP} {l:List Int} {c:Value} (h:zQ w D hh β (.agg (l.map iI)) c):c=ZI l:=by
 have each:∀i,i<l.length->(l.map iI)[i]? =some (.s (.int .i64 (l.getD i 0))):=λi hi=>by simp[List.getD,hi,iI]
 have fin:∀cs:Array Value,cs.size=l.length->(∀i,i<l.length->cs.getD i undef= .int .i64 (l.getD i 0))->Value.agg cs=ZI l:=λcs hs hh=>by
  unfold ZI
  congr 1
  apply Array.ext
  ·simp[hs]
  ·intro i h1 h2;have:=hh i zB;simp[yAy,h1]at this;rw[this];simp[List.getD,show i<l.length by omega]
 cases h with
 | fz _ _ hf=>
  cases hf with
  |agg _ cs hl _ hh2=>
   refine fin cs (by rw[hl];simp) λi hi=>?_
   have:=hh2 i _ (each i hi);generalize cs.getD i undef=c at this;cases this;rfl
 |agg _ cs hl _ hh2=>exact fin cs (by rw[hl];simp) λi hi=>zGo (hh2 i _ (each i hi))
def zB1 {T:Nat} (k:Nat) (hn:(zC h k).isNone=true) (hm:Nat.blt t m=true) (hk:∀b,zX P F m ops false rest ⟨(t,.s (.map (some b)))::tm,(k,.obj (b,fE []))::h⟩ fs Q):
  zX P F m ops false (⟨some t,.makeMap T none,ty,pos,after,none⟩::rest) ⟨tm,h⟩ fs Q:=by
 refine zGn (O:=λv d=>∃b,v= .s (.map (some b))/\d=[(k,.obj (b,fE []))]) (λo X a w β ho HH Ht=>?_) (λj hj=>by cases hj;exact hm) (λv d ⟨b,_,hd⟩=>by rw[hd];rfl) (λv d ⟨b,hv,hd⟩=>by rw[hv,hd];exact hk b);obtain⟨dst,op',type,pos,after,guard⟩:=o;dsimp only at ho;subst ho
 have hr:(execOp a.eval ⟨dst,.makeMap T none,type,pos,after,guard⟩).run P w= .ok (.value (.map (some w.heap.size))) (w.alloc (.map #[] 0)):=by
  simp[execOp,Instr.makeMap,newObj];rfl
 rw[hr];exact⟨_,_,⟨w.heap.size,rfl,rfl⟩,_,yX.newObj HH OA _ ⟨#[],0,rfl,rfl,λe he=>by simp at he,by simp⟩,.fz _ _ (.s _)⟩
def FA (hP:uI P TT) {T kt et n k b:Nat} {x y z:Operand} {es:List (List Int×Int)} {l:List Int} {v:Int} (K:KD P TT kt n) (hT:P.underlying T=some (.map kt et)) (hx:yJ (zG tm) x= .s (.map (some b))) (hy:yJ (zG tm) y= .agg (l.map iI)) (hz:yJ (zG tm) z= .s (.int .i64 v))
  (he:zC h k=some (.obj (b,fE es))) (hl:l.length=n) (hn:∀p∈es,p.1.length=n) (hk:zX P F m ops false rest ⟨tm,(k,.obj (b,fE (bK l v es)))::h⟩ fs Q):
  zX P F m ops false (⟨none,.mapUpdate T x y z,ty,pos,after,none⟩::rest) ⟨tm,h⟩ fs Q:=by
 refine zGn (O:=λv' d=>v'= .bot/\d=[(k,.obj (b,fE (bK l v es)))]) (λo X a w β ho HH Ht=>?_) (λj hj=>by cases hj) (λv d ⟨_,hd⟩=>by rw[hd];rfl) (λv d ⟨_,hd⟩=>by rw[hd];exact hk);obtain⟨dst,op',type,pos,after,guard⟩:=o;dsimp only at ho;subst ho;have h1:=gJ Ht x;have h2:=gJ Ht y;have h3:=gJ Ht z;rw[hx]at h1;rw[hy]at h2;rw[hz]at h3;have e1:=zGo h1;have e3:=zGo h3;have e2:a.eval y=ZI l:=zTd h2;obtain⟨g1,o,g2,g3⟩:=HH.ent k _ he;obtain⟨o',u1,u2⟩:=zNr hP w K hT g2 g3 hn hl v
 have hr:(execOp a.eval ⟨dst,.mapUpdate T x y z,type,pos,after,guard⟩).run P w= .ok .skip (ChangeMaps.setBlock w b o'):=by
  simp[execOp,e1,e2,e3,u1]
 rw[hr];have c1:noC o=true:=by obtain⟨_,_,rfl,_⟩:=g3;rfl
 have c2:noC o'=true:=by obtain⟨_,_,rfl,_⟩:=u2;rfl
 exact⟨_,_,⟨rfl,rfl⟩,_,yX.setObj HH he g2 c1 c2 u2,.fz _ _ (.bot _)⟩
def FB {T kt et b:Nat} {x:Operand} {o0:Obj} {es:List (List Int×Int)} (k:Nat) (hT:P.underlying T=some (.map kt et)) (hx:yJ (zG tm) x= .fm (some b) (λo=>o=o0)) (ho0:fE es o0) (hn:(zC h k).isNone=true) (hm:Nat.blt t m=true)
  (hk:∀bi,zX P F m ops false rest ⟨(t,.s (.pointer (some ⟨bi,0,none⟩)))::tm,(k,.obj (bi,KE b o0 none es))::h⟩ fs Q):
  zX P F m ops false (⟨some t,.range T x,ty,pos,after,none⟩::rest) ⟨tm,h⟩ fs Q:=by
 refine zGn (O:=λv d=>∃bi,v= .s (.pointer (some ⟨bi,0,none⟩))/\d=[(k,.obj (bi,KE b o0 none es))]) (λo X a w β ho HH Ht=>?_) (λj hj=>by cases hj;exact hm) (λv d ⟨b,_,hd⟩=>by rw[hd];rfl) (λv d ⟨bi,hv,hd⟩=>by rw[hv,hd];exact hk bi);obtain⟨dst,op',type,pos,after,guard⟩:=o;dsimp only at ho;subst ho;have h1:=gJ Ht x;rw[hx]at h1;obtain⟨e1,hb⟩:=zGp h1;obtain⟨arr,clk,rfl,m1,m2,m3⟩:=ho0
 have hr:(execOp a.eval ⟨dst,.range T x,type,pos,after,guard⟩).run P w= .ok (.value (.pointer (some ⟨w.heap.size,0,none⟩))) (w.alloc (.mapIter (some b) clk #[] clk)):=by
  simp[execOp,e1,run_range_map w T kt et b arr clk hT hb]
 rw[hr];refine⟨_,_,⟨w.heap.size,rfl,rfl⟩,_,yX.newObj HH OA _ ⟨arr,clk, #[],rfl,rfl,?_,λp hp=>by cases hp⟩,.fz _ _ (.s _)⟩;rw[<-m1]
 congr 1
 exact yDj.2 λe _=>by simp
def zGq {w:World} {D:Nat->Prop} {hh:yC} {β:vP} (l:List Int):zQ w D hh β (.agg (l.map iI)) (ZI l):=by
 refine .fz _ _ (.agg _ _ zU (λi hi=>?_) (λi v hv=>?_))
 ·simp at hi;simp[yAy,hi,Value.oneCell']
 ·rw[yAa,yAo]at hv;obtain⟨n,hn,rfl⟩:=hv;have hi:=(yAu.1 hn).1
  have e:((l.map (Value.int .i64)).toArray).getD i undef= .int .i64 n:=by
   simp[yAy,hn]
  rw[e];exact .s _
inductive zD1 (w:World) (D:Nat->Prop) (hh:yC) (β:vP):List AV->List Value->Prop
 |nil:zD1 w D hh β [] []
 |cons {v c vs cs} (h:zQ w D hh β v c) (r:zD1 w D hh β vs cs):zD1 w D hh β (v::vs) (c::cs)
theorem zD1.get {w:World} {D:Nat->Prop} {hh:yC} {β:vP} {vs:List AV} {cs:List Value} (h:zD1 w D hh β vs cs):cs.length=vs.length/\∀(i:Nat) v,vs[i]? =some v->zQ w D hh β v (cs.toArray.getD i undef):=by
 induction h with
 |nil=>exact⟨rfl,λi v hv=>by simp at hv⟩
 | cons h r ih=>
  refine⟨by simp[ih.1],λi v hv=>?_⟩
  cases i with
  |zero=>simp at hv;subst hv;simpa [yAy]using h
  |succ i=>
   have:=ih.2 i v LK;simpa [yAy]using this
def KG {w:World} {D:Nat->Prop} {hh:yC} {β:vP} {vs:List AV} {cs:List Value} (h:zD1 w D hh β vs cs):zQ w D hh β (.tup vs) (.tuple cs.toArray):=
 .tup vs _ (by simp[h.get.1]) h.get.2
def zD2 {l:List MapEntry} {seen:Array Nat} {e:MapEntry} {F1 F2:List MapEntry} (hn:(l.map (·.born)).Nodup) (h:(l.filter λx=>!seen.contains x.born)=F1++e::F2):
  (l.filter λx=>!(seen.push e.born).contains x.born)=F1++F2:=by
 have h1:(l.filter λx=>!(seen.push e.born).contains x.born)=(l.filter λx=>!seen.contains x.born).filter λx=>x.born != e.born:=by
  rw[List.filter_filter];refine List.filter_congr λx _=>?_
  by_cases hx:x.born=e.born<;>simp[hx,Array.contains_push]
 have hs:((l.filter λx=>!seen.contains x.born).map (·.born)).Nodup:=(List.filter_sublist.map _).nodup hn;rw[h]at hs;rw[h1,h,yDc,yEw];rw[yAi,yBb,List.nodup_append]at hs;obtain⟨s1,s2,s3⟩:=hs;rw[yD3]at s2
 have f1:F1.filter (λx=>x.born != e.born)=F1:=yDj.2 λx hx=>by
  have:=s3 x.born (yA5.2 ⟨x,hx,rfl⟩) e.born zU;simpa using this
 have f2:F2.filter (λx=>x.born != e.born)=F2:=yDj.2 λx hx=>by
  have:x.born≠e.born:=λhh=>s2.1 (hh▸yA5.2 ⟨x,hx,rfl⟩)
  simpa using this
 rw[f1,f2];simp
theorem MK {b bi k s:Nat} {x:Operand} {o0:Obj} {es L:List (List Int×Int)} {cur:Option (List Int×Int)} (hx:yJ (zG tm) x= .s (.pointer (some ⟨bi,0,none⟩))) (hf:zG tm s= .fm (some b) (λo=>o=o0)) (ho0:fE es o0)
  (he:zC h k=some (.obj (bi,KE b o0 cur L))) (hm:Nat.blt t m=true) (h0:L=[]->zX P F m ops false rest ⟨(t,.tup [.s (.bool false)])::tm,h⟩ fs Q)
  (h1:∀p L1 L2,L=L1++p::L2->zX P F m ops false rest ⟨(t,.tup [.s (.bool true),.agg (p.1.map iI),.s (.int .i64 p.2)])::tm,(k,.obj (bi,KE b o0 (some p) (L1++L2)))::h⟩ fs Q):
  zX P F m ops false (⟨some t,.next x false,ty,pos,after,none⟩::rest) ⟨tm,h⟩ fs Q:=by
 refine zGn (O:=λv d=>(L=[]/\v= .tup [.s (.bool false)]/\d=[])∨∃p L1 L2,L=L1++p::L2/\v= .tup [.s (.bool true),.agg (p.1.map iI),.s (.int .i64 p.2)]/\d=[(k,.obj (bi,KE b o0 (some p) (L1++L2)))])
  (λo X a w β ho HH Ht=>?_) (λj hj=>by cases hj;exact hm) (λv d H=>by rcases H with⟨_,_,hd⟩|⟨_,_,_,_,_,hd⟩<;>(rw[hd];rfl)) (λv d H=>by
   rcases H with⟨h2,hv,hd⟩|⟨p,L1,L2,h2,hv,hd⟩
   ·rw[hv,hd];exact h0 h2
   ·rw[hv,hd];exact h1 p L1 L2 h2)
 obtain⟨dst,op',type,pos,after,guard⟩:=o;dsimp only at ho;subst ho;have e1:=gJ Ht x;rw[hx]at e1;have e1:=zGo e1;have e2:=Ht s;rw[hf]at e2;obtain⟨_,hb⟩:=zGp e2;obtain⟨g1,o,g2,arr,clk,seen,rfl,rfl,g3,_⟩:=HH.ent k _ he;obtain⟨arr',clk',hh,m1,m2,m3⟩:=ho0;cases hh
 rcases run_next_at (P:=P) w type bi b clk clk seen arr clk g2 hb m2 (yAb _)with⟨q1,q2⟩|⟨e,q1,w1,q2,q3⟩
 ·have hr:(execOp a.eval ⟨dst,.next x false,type,pos,after,guard⟩).run P w= .ok (.value (.tuple #[.bool false])) w:=by
   simp[execOp,e1,q2]
  rw[hr]
  have hl:L=[]:=by
   have h2:=yA6 List.length g3;rw[zZ9,zZ9]at h2;have h3:(leftOf arr seen).toList.length=0:=by simpa using q1
   unfold leftOf at h3;rw[Array.toList_filter]at h3;exact yBa zB
  exact⟨_,_,.inl ⟨hl,rfl,rfl⟩,β,by rw[kU];exact yX.refl HH,by rw[kU];exact KG (.cons (.fz _ _ (.s _)) .nil)⟩
 ·have hr:(execOp a.eval ⟨dst,.next x false,type,pos,after,guard⟩).run P w= .ok (.value (.tuple #[.bool true,e.key,e.val])) (ChangeMaps.setBlock w1 bi (.mapIter (some b) clk (seen.push e.born) clk)):=by
   simp[execOp,e1,q3]
  rw[hr];unfold leftOf at q1;rw[Array.toList_filter]at q1;obtain⟨F1,F2,hF⟩:=yE7 q1;have hea:e∈arr.toList:=(yC5.1 q1).1;rw[hF,yAi,yBb]at g3;obtain⟨L1,r1,hL,hL1,hr1⟩:=List.map_eq_append_iff.1 g3.symm;obtain⟨p,L2,rfl,hp,hL2⟩:=List.map_eq_cons_iff.1 hr1
  have G1:yX X w (zC h) β w1 (zC h) β:=by
   rcases q2 with rfl|rfl
   ·exact yX.refl HH
   ·exact yX.drew HH _
  have hw1:w1.heap=w.heap:=by rcases q2 with rfl|rfl<;>rfl
  have G2:=yX.setObj (o':= .mapIter (some b) clk (seen.push e.born) clk) (p':=KE b (.map arr clk) (some p) (L1++L2)) G1.hok he (by rw[hw1];exact g2) Z Z
   ⟨arr,clk,seen.push e.born,rfl,rfl,by rw[zD2 m3 hF,yAi,yAi,hL1,hL2],λp' hp'=>by cases hp';exact⟨e,hea,⟨seen,rfl⟩,hp.symm⟩⟩
  refine⟨_,_,.inr ⟨p,L1,L2,hL,rfl,rfl⟩,_,yX.trans HH G1 G2,?_⟩;have hk:e.key=ZI p.1:=(yA6 Prod.fst hp).symm;have hv:e.val= .int .i64 p.2:=(yA6 Prod.snd hp).symm;rw[hk,hv];exact KG (.cons (.fz _ _ (.s _)) (.cons (zGq _) (.cons (.fz _ _ (.s _)) .nil)))
def QD {b bi k s:Nat} {x:Operand} {o0:Obj} {es L:List (List Int×Int)} {p:List Int×Int} (hx:yJ (zG tm) x= .s (.pointer (some ⟨bi,0,none⟩))) (hf:zG tm s= .fm (some b) (λo=>o=o0)) (ho0:fE es o0)
  (he:zC h k=some (.obj (bi,KE b o0 (some p) L))) (hm:Nat.blt t m=true) (hk:zX P F m ops false rest ⟨(t,.tup [.agg (p.1.map iI),.s (.int .i64 p.2)])::tm,h⟩ fs Q):
  zX P F m ops false (⟨some t,.entry x,ty,pos,after,none⟩::rest) ⟨tm,h⟩ fs Q:=by
 refine zGn (O:=λv d=>v= .tup [.agg (p.1.map iI),.s (.int .i64 p.2)]/\d=[]) (λo X a w β ho HH Ht=>?_) (λj hj=>by cases hj;exact hm) (λv d ⟨_,hd⟩=>by rw[hd];rfl) (λv d ⟨hv,hd⟩=>by rw[hv,hd];exact hk);obtain⟨dst,op',type,pos,after,guard⟩:=o;dsimp only at ho;subst ho;have e1:=gJ Ht x;rw[hx]at e1;have e1:=zGo e1;have e2:=Ht s;rw[hf]at e2;obtain⟨_,hb⟩:=zGp e2;obtain⟨g1,o,g2,arr,clk,seen,rfl,rfl,g3,g4⟩:=HH.ent k _ he;obtain⟨arr',clk',hh,m1,m2,m3⟩:=ho0;cases hh;obtain⟨e,q1,⟨s0,rfl⟩,q2⟩:=g4 p Z
 have hr:(execOp a.eval ⟨dst,.entry x,type,pos,after,guard⟩).run P w= .ok (.value (.tuple #[e.key,e.val])) w:=by
  simp[execOp,e1,run_entry_at (P:=P) w bi b clk s0 arr clk e g2 hb q1 m3]
 rw[hr];have hk:e.key=ZI p.1:=yA6 Prod.fst q2;have hv:e.val= .int .i64 p.2:=yA6 Prod.snd q2;rw[hk,hv];exact⟨_,_,⟨rfl,rfl⟩,β,by rw[kU];exact yX.refl HH,by rw[kU];exact KG (.cons (zGq _) (.cons (.fz _ _ (.s _)) .nil))⟩
end
section
variable {P:Program} {K0:List Nat} {F:Fr K0} {m:Nat} {Q:Exit->St->Prop} {tm:List (Nat×AV)} {h:List (Nat×xN)} {st:St}
theorem xV.openM {a:Act} {w:World} (R:xV F m ⟨tm,h⟩ a w) {t:Nat} {ob:Option Nat} {p:Obj->Prop} (hv:zG tm t= .fm ob p):∃b o,p o/\xV F m ⟨(t,.fm (some b) λx=>x=o)::tm,h⟩ a w:=by
 obtain⟨⟨X,β,hX,H,Ht,KK,hJ,hD⟩,nd,gs,hl⟩:=R;have hc:=Ht t;dsimp only at hc;rw[hv]at hc
 obtain⟨b,o,ec,hp,hr⟩:∃b o,a.eval (.tmp t)= .map (some b)/\p o/\zQ w (xK X β) (zC h) β (.fm (some b) λx=>x=o) (.map (some b)):=by
  generalize a.eval (.tmp t)=c at hc
  cases hc with
  |fz _ _ hf=>
   cases hf with
   |fm _ _ b o ho hl hd hx hp=>exact⟨b,o,rfl,hp,.fz _ _ (.fm _ _ b o (λn e=>by cases e;rfl) hl hd hx Z)⟩
 refine⟨b,o,hp,⟨X,β,hX,H,λj=>?_,KK,λi hi=>?_,hD⟩,nd,gs,hl⟩
 ·rw[yF];split
  ·rename_i e;subst e;rw[ec];exact hr
  ·exact Ht j
 ·rw[yF]at hi;split at hi
  ·cases hi
  ·exact hJ i hi
def zD3 {c:Code} (t:Nat) {ob:Option Nat} {p:Obj->Prop} (hv:zG tm t= .fm ob p) (hk:∀b o,p o->vK P F m c ⟨(t,.fm (some b) λx=>x=o)::tm,h⟩ Q):vK P F m c ⟨tm,h⟩ Q:=⟨λa w R=>by
 obtain⟨b,o,hp,R'⟩:=xV.openM R hv
 exact(hk b o hp).run a w R'⟩
def zNt {ops:Array Oper} {rest:List Oper} {fs:List FP} {Q:List FP->St->Prop} (t:Nat) {ob:Option Nat} {p:Obj->Prop} (hv:zG tm t= .fm ob p) (hk:∀b o,p o->zX P F m ops false rest ⟨(t,.fm (some b) λx=>x=o)::tm,h⟩ fs Q):zX P F m ops false rest ⟨tm,h⟩ fs Q:=⟨λa w R=>by
 obtain⟨b,o,hp,R'⟩:=xV.openM R hv
 exact(hk b o hp).run a w R'⟩
def FC {c:Code} (t k:Nat) (K ts:List Nat) {b:Nat} {p:Obj->Prop} {st':St} (hK:K0.all (K.contains ·)=true) (hkK:K.contains k=false) (hv:zG st.tm t= .s (.map (some b))) (hk:zC st.h k=some (.obj (b,p))) (ht:Nat.beq t GS=false)
  (he:(⟨(t,.fm none p)::(restr K ts st).tm,(restr K ts st).h⟩:St)=st') (hs:vK P F m c st' Q):vK P F m c st Q:=⟨λa w R=>hs.run a w (by
 rw[<-he];refine xV.restrM R K ts hK ?_ λj=>?_
 ·rw[yF,zZ7];intro e;rw[<-e]at ht;simp at ht
 ·rw[yF];by_cases e:j=t
  ·rw[zZ8 e,e];exact .inr ⟨k,b,p,hk,λhm=>(by rw[yCw.2 hm]at hkK;cases hkK),hv,rfl⟩
  ·rw[zZ7 e]
   exact .inl Z)⟩
end
end Av
end Go.Proofs.YteajjdidebfcjaaGreat
