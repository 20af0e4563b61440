/- Part 30. -/
import Derived.Test.YtmamjhmoegjapaaGreatQ29
namespace Go.Proofs.YtmamjhmoegjapaaGreat
namespace Av
open Tryz
set_option linter.all false
set_option maxRecDepth 4000
set_option maxHeartbeats 8000000
structure JI (j:Jn) (s:Sg) (v:Sv) (now:Int):Prop where
 c:CV j s.c
 n:v.en.length=j.ph.length
 e:∀e∈v.en,-1<=e/\e<=now
 g:0<=v.gr
theorem zJm (g:Cf) (s:Sv) (l:List Cl) (now:Int) (h:0<=s.gr):0<=(kF g s l now).gr:=by
 unfold kF;split
 ·exact zZf _
 ·unfold fP;split
  ·exact zZf _
  ·exact h
theorem zWz {j:Jn} (J:JV j) {s:Sg} {v:Sv} {now:Int} (n0:0<=now) (H:JI j s v now) (g:Cf) (l:List Cl) (k:Int):JI j (dvF g j s v l k now).1 (dvF g j s v l k now).2 now:=by
 refine⟨zUb J H.c g v l k now,?_,?_,?_⟩
 ·unfold dvF;split
  ·exact(UF _ _).trans H.n
  ·split
   ·exact(UF _ _).trans ((WE ..).trans H.n)
   ·dsimp only;unfold dI;split
    ·exact(WE ..).trans H.n
    ·exact(WE ..).trans H.n
 ·have hd:=zEw g v l now n0 H.e;unfold dvF;split
  ·exact RX _ _ n0 H.e
  ·split
   ·exact RX _ _ n0 hd
   ·dsimp only;unfold dI;split
    ·exact hd
    ·exact hd
 ·have hd:=zJm g v l now H.g;unfold dvF;split
  ·exact zZf _
  ·split
   ·exact zZf _
   ·dsimp only;unfold dI;split
    ·dsimp only;omega
    ·exact hd
theorem zJn:∀(l pre:List Lg),fQ pre l=true->∀g∈l,KY g=true
 | [],_,_,g,hg=>by cases hg
 |x::l,pre,h,g,hg=>by
  unfold fQ at h;simp only[zXo]at h
  rcases zYq.1 hg with rfl|hg
  ·exact h.1
  ·exact zJn l _ h.2.2 g hg
theorem zJo {P:Program} {st:St} {T1 T2 T3:Nat} {x y z:Operand} {k:IntKind} {m n l:Int} (hx:yL (zG st.tm) x= .s (.int k m)) (hy:yL (zG st.tm) y= .s (.int k n)) (hz:yL (zG st.tm) z= .s (.int k l)):wR P st (.call ⟨.builtin .min, #[x,y,z], #[T1,T2,T3]⟩) (.s (.int k (min (min m n) l))) [] [] []:=
 yQ λoo X tm h w β a ho hg hr HH Ht=>by
  obtain⟨dst,op',type,pos,after,guard⟩:=oo;dsimp only at ho;subst ho;have h1:=vI Ht hg (x:=x) qF hx;have h2:=vI Ht hg (x:=y) qF hy;have h3:=vI Ht hg (x:=z) qF hz;refine⟨.int k (min (min m n) l),?_,.fz _ _ (.s _)⟩;have e1:(if n<m then n else m)=min m n:=by omega
  have e2:(if l<min m n then l else min m n)=min (min m n) l:=by omega
  simp[execOp,resolve,invoke,builtin,Builtin.min_,Builtin.min2,h1,h2,h3,e1,e2]
theorem zJp {P:Program} {st:St} {op:Op} {v:AV} {d:List (Nat×xN)} {r nw:List Nat} (hs:wR P st op v d r nw) (hr:(yD d).all (r.contains ·)=true) (he:(yD d).map (zC st.h)=(yD d).map (zC d)):wR P st op v [] r nw:=
 ⟨λX tm h hg hh hn=>by
  have h1:=hs.run X tm h hg hh hn
  have e:over d h=over [] h:=funext λk=>by
   unfold over
   cases hk:zC d k with
   |none=>rfl
   |some e=>
    have hm:=vF hk;obtain⟨i,hi⟩:=yAn hm;have e1:=zX7 (·[i]?) he;have e2:zC st.h k=zC d k:=by simpa [hi]using e1
    have e3:=hh k (by have:=zXm.1 hr k hm;simpa using this)
    show some e=h k
    rw[e3,e2,hk]
  rwa [e]at h1⟩
theorem zJq {ag j:Int} {x:Rq} {c:Cl} (h:c∈HQ ag j x) (hx:RqO x) {now:Int} (n0:0<=now) (hs:∀g∈x.legs,g.sc<=now):(0<=c.k/\c.k<=3)/\(0<=c.si/\c.si<=now):=by
 unfold HQ at h;split at h
 ·cases h
 ·split at h
  ·cases h
  ·rename_i h1;rw[zX9]at h;subst h;dsimp only;refine⟨⟨hx.c0,hx.c1⟩,?_⟩;by_cases hi:(UB (λr:Lg=>r.jn==j) x.legs).toNat<x.legs.length
   ·have hm:=yC x.legs _ hi;have hl:=hx.lg;unfold vgF at hl;rw[zXo]at hl;have:=hs _ hm;have hv:=zJn _ _ hl.2 _ hm;generalize x.legs.getD (UB (λr:Lg=>r.jn==j) x.legs).toNat default=g at *;unfold KY at hv;rw[zXi]at hv;omega
   ·rw[zXh,zX0 zB]
    show(0:Int)<=0/\(0:Int)<=now
    omega
theorem zJr {c:Cf} {j:Int} {ds:List xP} (hI:∀d∈ds,uV c d) {now:Int} (n0:0<=now) (hs:∀d∈ds,OR now d.rq):∀x∈eJ j ds,(0<=x.k/\x.k<=3)/\(0<=x.si/\x.si<=now):=λx hx=>by
 unfold eJ at hx;obtain⟨y,hy,hx⟩:=yAv.1 hx;obtain⟨d,hd,rfl⟩:=zYo.1 hy;unfold cI at hx;obtain⟨y,hy,hx⟩:=yAv.1 hx;obtain⟨r,hr,rfl⟩:=zYo.1 hy;exact zJq hx ((hI d hd).v.ok r hr) n0 (hs d hd r hr)
theorem LA (j:Int):∀l:List xP,(∀d∈l,d.rq.length<=4)->(eJ j l).length<=4*l.length
 | [],_=>zXc _
 |d::l,h=>by
  have h1:=aK d.rg.num j d.rq;have h2:=LA j l (λx hx=>h x VK);have h3:=h d zS;have e:eJ j (d::l)=cI d.rg.num j d.rq++eJ j l:=rfl;rw[e,zXb,zXl];omega
def ZG (c:Cf) (sg:List Sg) (sv:List Sv) (st:List Int) (ds:List xP) (now:Int) (k:Nat):Sg×Sv:=dvF c (c.js.getD k default) (sg.getD k default) (sv.getD k default) (eJ (k:Int) ds) (st.getD k default) now
def ON (D:Nat->Sg×Sv) (l:List Sg) (i:Nat):List Sg:=WI (λk _=>(D k).1) l i
def OO (D:Nat->Sg×Sv) (l:List Sv) (i:Nat):List Sv:=WI (λk _=>(D k).2) l i
def IL (l:List Int) (i:Nat):List Int:=WI (λ_ _=> -1) l i
def stW (js:List Jn) (D:Nat->Sg×Sv) (n i:Nat):List AV:=(List.range n).map λk=>if k<i then vL (HM (js.getD k default) (D k).1 (D k).2)else .agg [bA false,bA false,.s (.slice none 0 0),.s (.slice none 0 0)]
def stH (c:Cf) (now:Int) (ds:List xP) (v:AV) (sg:List Sg) (sv:List Sv) (st:List Int):List (Nat×xN):=
 [(2,.box [zD wP c.js,zD vH c.ags,iA c.per,iA c.cap,iA c.hold,iA c.lock,bA false,iA now,zD zJ ds,.ref 1012 0 (sg.map vB).length,.ref 1013 0 (sv.map wX).length,.ref 1014 0 (st.map iA).length,v]),(1012,.arr 5 (sg.map vB) false),(1013,.arr 3 (sv.map wX) false),(1014,.arr 1 (st.map iA) false)]
theorem zJs (c:Cf) (hv:IX c) (now:Int) (n0:0<=now) (n1:now<=1000000000) (ds:List xP) (hd4:ds.length<=4) (hI:∀d∈ds,uV c d) (hs:∀d∈ds,OR now d.rq) (sg:List Sg) (sv:List Sv) (st:List Int) (vw:List Vw)
  (hg:sg.length=c.js.length) (hsv:sv.length=c.js.length) (hst:st.length=c.js.length) (hj:∀k,k<c.js.length->JI (c.js.getD k default) (sg.getD k default) (sv.getD k default) now):
  zN 64 [.ptr 2 0 0] (stH c now ds (zD vL vw) sg sv st) (.tup [])
   (stH c now ds (.ref 1015 0 c.js.length) (ON (ZG c sg sv st ds now) sg c.js.length) (OO (ZG c sg sv st ds now) sv c.js.length) (IL st c.js.length)++[(1015,.arr 4 (stW c.js (ZG c sg sv st ds now) c.js.length c.js.length) false)]):=by
 have hjl:=zA wP c.js;have hgl:=zA vB sg;have hvl:=zA wX sv;have htl:=zA iA st;have hj4:=hv.j;unfold stH;refine eM call64 λF hF=>?_
 (repeat' (first|refine qA ?_|refine xQ (λhc=>?_) (λhc=>?_)|refine wD (λhc=>?_)|(refine zE ?_;first|(refine zE ?_;refine xK (zJo rfl rfl rfl) rfl ?_)|(refine gO ?_;refine cE 1015 tok rfl rfl rfl rfl rfl rfl rfl rfl rfl rfl rfl rfl rfl zB zB rfl rfl rfl ?_))|fail))
 rw[hjl,hgl,hvl,hg,hsv,yDd,yDd]
 (repeat' (first|refine qA ?_|refine xQ (λhc=>?_) (λhc=>?_)|refine wD (λhc=>?_)|(refine zE ?_;first|(refine gO ?_;refine cE 1015 tok rfl rfl rfl rfl rfl rfl rfl rfl rfl rfl rfl rfl rfl zB zB rfl rfl rfl ?_))|fail))
 have hw0:∀D,stW c.js D c.js.length 0=List.replicate c.js.length (.agg [bA false,bA false,.s (.slice none 0 0),.s (.slice none 0 0)]):=λD=>by
  unfold stW;apply zYp;intro j;rw[zXd,zY4];by_cases hj:j<c.js.length
  ·rw[zX6 hj,zW9 hj];simp
  ·rw[zW8 hj,zX0 wQ];rfl
 have hC:=LA;have hG0:∀D,ON D sg 0=sg:=λD=>jP _ _
 have hV0:∀D,OO D sv 0=sv:=λD=>jP _ _
 have hK0:IL st 0=st:=jP _ _;have hgn:∀D i,((ON D sg i).map vB).length=c.js.length:=λD i=>by unfold ON;rw[zXa,vJ,hg]
 have hvn:∀D i,((OO D sv i).map wX).length=c.js.length:=λD i=>by unfold OO;rw[zXa,vJ,hsv]
 have hkn:∀i,((IL st i).map iA).length=c.js.length:=λi=>by unfold IL;rw[zXa,vJ,hst]
 have hwn:∀D i,(stW c.js D c.js.length i).length=c.js.length:=λD i=>by unfold stW;rw[zXa,zYu]
 rw[htl,hst,hgn,hvn,hkn];refine zP (c.js.length) [1012,1013,1014,1015,2] [2] [0,28] [29,0,28] rfl (λi T U=>⟨(29,iA i)::T,(1012,.arr 5 ((ON (ZG c sg sv st ds now) sg i).map vB) false)::(1013,.arr 3 ((OO (ZG c sg sv st ds now) sv i).map wX) false)::(1014,.arr 1 ((IL st i).map iA) false)::(1015,.arr 4 (stW c.js (ZG c sg sv st ds now) c.js.length i) false)::U⟩) ?_;(conv=>whnf);refine⟨by(rw[hG0,hV0,hK0,hw0];rfl),?_,?_⟩
 ·intro i hi;have hyj:=zM wP c.js i hi;have hyg:((ON (ZG c sg sv st ds now) sg i).map vB)[i]? =some (vB (sg.getD i default)):=by rw[zXd];unfold ON;rw[uX,zW9 zB,zW8 (yBg i)];rfl
  have hyv:((OO (ZG c sg sv st ds now) sv i).map wX)[i]? =some (wX (sv.getD i default)):=by rw[zXd];unfold OO;rw[uX,zW9 zB,zW8 (yBg i)];rfl
  have hyk:((IL st i).map iA)[i]? =some (iA (st.getD i default)):=by rw[zXd];unfold IL;rw[uX,zW9 zB,zW8 (yBg i)];rfl
  have hyw:(stW c.js (ZG c sg sv st ds now) c.js.length i)[i]? =some (.agg [bA false,bA false,.s (.slice none 0 0),.s (.slice none 0 0)]):=cT _ _ _ _ hi;have eg:(ON (ZG c sg sv st ds now) sg (i+1)).map vB=((ON (ZG c sg sv st ds now) sg i).map vB).set i (vB (ZG c sg sv st ds now i).1):=by unfold ON;rw[qO _ _ _ _ zB]
  have ev:(OO (ZG c sg sv st ds now) sv (i+1)).map wX=((OO (ZG c sg sv st ds now) sv i).map wX).set i (wX (ZG c sg sv st ds now i).2):=by unfold OO;rw[qO _ _ _ _ zB]
  have ek:(IL st (i+1)).map iA=((IL st i).map iA).set i (iA (-1)):=by unfold IL;rw[qO _ _ _ _ zB]
  have ew:stW c.js (ZG c sg sv st ds now) c.js.length (i+1)=(stW c.js (ZG c sg sv st ds now) c.js.length i).set i (vL (HM (c.js.getD i default) (ZG c sg sv st ds now i).1 (ZG c sg sv st ds now i).2)):=eE _ _ _ _ hi;have J:=hv.jv _ (yC c.js i hi);have H:=hj i hi;have cl:(eJ (i:Int) ds).length<=4*ds.length:=hC i ds λd hd=>(hI d hd).v.n4
  have cm:=zJr (j:=(i:Int)) hI n0 hs;have hp:=hv.p;have hcp:=hv.cp;have hJn:=J.n;have hHn:=H.n;have HD:DcB c (sv.getD i default) (eJ (i:Int) ds) now:=⟨hp.1,zB,zB,n0,n1,H.e,λx hx=>(cm x hx).1,λx hx=>(cm x hx).2,zB,zB⟩
  have kd:zN 112 [wT c,wP (c.js.getD i default),vB (sg.getD i default),wX (sv.getD i default),zD dL (eJ (i:Int) ds),iA (st.getD i default),iA now] [] (.tup [vB (ZG c sg sv st ds now i).1,wX (ZG c sg sv st ds now i).2]) []:=
   zK8 c _ J _ H.c _ _ _ now HD (by have:=zJm c (sv.getD i default) (eJ (i:Int) ds) now H.g;omega)
  have ko:=zEf (c.js.getD i default) J (ZG c sg sv st ds now i).1 (zUb J H.c _ _ _ _ _) (ZG c sg sv st ds now i).2;have kc:=zCj c false now ds i zB (λd hd=>(hI d hd).bd) ((ON (ZG c sg sv st ds now) sg i).map vB) ((OO (ZG c sg sv st ds now) sv i).map wX) (((IL st i).map iA).set i (iA (-1))) (stW c.js (ZG c sg sv st ds now) c.js.length i) c.js.length c.js.length c.js.length c.js.length;have hgl':=hgn (ZG c sg sv st ds now) i;have hvl':=hvn (ZG c sg sv st ds now) i;have hkl':=hkn i;have hwl':=hwn (ZG c sg sv st ds now) i;rw[eg,ev,ek,ew];clear eg ev ek ew hG0 hV0 hK0 hw0 HD cm hC hgn hvn hkn hwn hj H J;generalize (ON (ZG c sg sv st ds now) sg i).map vB=X at *;generalize (OO (ZG c sg sv st ds now) sv i).map wX=Y at *;generalize (IL st i).map iA=Z at *;generalize stW c.js (ZG c sg sv st ds now) c.js.length i=W at *;generalize ZG c sg sv st ds now i=p at *;generalize HM (c.js.getD i default) p.1 p.2=w at *;generalize eJ (i:Int) ds=l at *;generalize sg.getD i default=s at *;generalize sv.getD i default=v at *;generalize st.getD i default=k at *;generalize c.js.getD i default=j at *;have hx1:(X.set i (vB p.1))[i]? =some (vB p.1):=zYw zB;have hx2:(Y.set i (wX p.2))[i]? =some (wX p.2):=zYw zB
  (have zc1:=kd;have zc2:=ko;(repeat' (first|refine qA ?_|refine xQ (λhc=>?_) (λhc=>?_)|refine wD (λhc=>?_)|(refine zE ?_;first|(refine uI 113 ?_;refine xK (zJp (zI kc rfl rfl rfl rfl rfl) rfl rfl) rfl ?_))|fail))<;>clear zc1 zc2)
  rfl
 ·(refine WW ?_)
  exact kT [2,1012,1013,1014,1015] rfl rfl rfl rfl
structure CyI (y:Cy):Prop where
 v:IX y.c
 rf:y.rf=false
 n0:0<=y.now
 dl:y.ds.length=y.c.ags.length
 di:∀d∈y.ds,uV y.c d
 dg:∀a,a<y.ds.length->(y.ds.getD a default).rg.ag=y.c.ags.getD a default
 sc:∀d∈y.ds,OR y.now d.rq
 gl:y.sg.length=y.c.js.length
 sl:y.sv.length=y.c.js.length
 tl:y.st.length=y.c.js.length
 wl:y.vw.length=y.c.js.length
 wb:∀w∈y.vw,DX w
 j:∀k,k<y.c.js.length->JI (y.c.js.getD k default) (y.sg.getD k default) (y.sv.getD k default) y.now
theorem OC {α:Type} [Inhabited α] {l:List α} {x:α} (h:x∈l):∃i,i<l.length/\l.getD i default=x:=by
 obtain⟨i,hi,e⟩:=yA7.1 h;exact⟨i,hi,by rw[zXh,zXr hi];exact e⟩
theorem CyI.b {y:Cy} (h:CyI y):CyB y:=by
 have ha:=h.v.a;have hj:=h.v.j;have h1:=h.dl;have h2:=h.gl;have h3:=h.sl;have h4:=h.tl;have h5:=h.wl;refine⟨zB,λd hd=>(h.di d hd).bd,zB,λs hs=>?_,zB,λs hs=>?_,zB,zB,λw hw=>?_⟩
 ·obtain⟨i,hi,rfl⟩:=OC hs;have J:=h.v.jv _ (yC y.c.js i zB);have C:=(h.j i zB).c;have h6:=J.n;have h7:=C.n;have h8:=C.m;omega
 ·obtain⟨i,hi,rfl⟩:=OC hs;have J:=h.v.jv _ (yC y.c.js i zB);have h6:=J.n;have h7:=(h.j i zB).n;omega
 ·have:=h.wb w hw;have h6:=this.n;have h7:=this.m;omega
def OD (c:Cf) (sg:List Sg) (ks:List Int):List Sg:=ks.foldl (λs x=>s.set x.toNat (srF (c.js.getD x.toNat default) (s.getD x.toNat default))) sg
theorem zJt (c:Cf) (sg:List Sg) (ks:List Int) (x:Int):OD c sg (ks++[x])=(OD c sg ks).set x.toNat (srF (c.js.getD x.toNat default) ((OD c sg ks).getD x.toNat default)):=by
 unfold OD;rw[List.foldl_append];rfl
theorem LB {α:Type} [Inhabited α] (l:List α) (i j:Nat) (x:α) (hj:j<l.length):(l.set i x).getD j default=if i=j then x else l.getD j default:=by
 rw[zXh,zZi,zXh];by_cases h:i=j
 ·subst h;rw[zW9 rfl,zW9 hj,zW9 rfl];rfl
 ·rw[zW8 h,zW8 h]
theorem zBz {c:Cf} (hv:IX c) {sv:List Sv} {now:Int}:∀(ks:List Int) (sg:List Sg),sg.length=c.js.length->(∀k,k<c.js.length->JI (c.js.getD k default) (sg.getD k default) (sv.getD k default) now)->(OD c sg ks).length=c.js.length/\∀k,k<c.js.length->JI (c.js.getD k default) ((OD c sg ks).getD k default) (sv.getD k default) now
 | [],sg,hl,h=>⟨hl,h⟩
 |x::ks,sg,hl,h=>by
  have e:OD c sg (x::ks)=OD c (sg.set x.toNat (srF (c.js.getD x.toNat default) (sg.getD x.toNat default))) ks:=rfl;rw[e];refine zBz hv ks _ (by rw[zY3];exact hl) λk hk=>?_
  rw[LB _ _ _ _ zB];split
  ·rename_i hx;rw[hx];have H:=h k hk;exact⟨zWa (hv.jv _ (yC c.js k hk)) H.c,H.n,H.e,H.g⟩
  ·exact h k hk
theorem zOj (D:Nat->Sg×Sv) (l:List Sg) (n k:Nat) (h1:k<n) (h2:k<l.length):(ON D l n).getD k default=(D k).1:=by
 unfold ON;rw[zXh,uX,zW9 h2,zW9 h1];rfl
theorem zOk (D:Nat->Sg×Sv) (l:List Sv) (n k:Nat) (h1:k<n) (h2:k<l.length):(OO D l n).getD k default=(D k).2:=by
 unfold OO;rw[zXh,uX,zW9 h2,zW9 h1];rfl
def stU (js:List Jn) (D:Nat->Sg×Sv) (n:Nat):List Vw:=(List.range n).map λk=>HM (js.getD k default) (D k).1 (D k).2
theorem zOl (js:List Jn) (D:Nat->Sg×Sv) (n:Nat):stW js D n n=(stU js D n).map vL:=by
 unfold stW stU;rw[eG,yBc];rfl
def DF (y:Cy) (R:Nat->DR):Nat->Sg×Sv:=ZG y.c (OD y.c y.sg (UD R y.ds.length)) y.sv y.st (SO (y.now+1) y.ds R y.ds.length) (y.now+1)
def fO (y:Cy) (R:Nat->DR):Cy:=
 ⟨y.c,false,y.now+1,SO (y.now+1) y.ds R y.ds.length,ON (DF y R) (OD y.c y.sg (UD R y.ds.length)) y.c.js.length,OO (DF y R) y.sv y.c.js.length,IL y.st y.c.js.length,stU y.c.js (DF y R) y.c.js.length⟩
def TkR (y:Cy) (ins:List In) (R:Nat->DR):Prop:=∀a,a<y.ds.length->DtP y.c (y.now+1) (ME (y.ds.getD a default) (y.now+1)) (owI y.c ins a) (R a)/\zN 110 [wT y.c,zJ (ME (y.ds.getD a default) (y.now+1)),zD jQ (owI y.c ins a),iA (y.now+1)] [] (drT (R a)) []
theorem VS {now:Int} {ds:List xP} {R:Nat->DR} {a:Nat} (ha:a<ds.length):(SO now ds R ds.length).getD a default=(R a).d:=by
 unfold SO;rw[eG,zXh,zXd,zX6 ha];rfl
theorem YB (now:Int) (ds:List xP) (R:Nat->DR):(SO now ds R ds.length).length=ds.length:=by simp[SO]
theorem RQ {now:Int} {ds:List xP} {R:Nat->DR} {d:xP} (h:d∈SO now ds R ds.length):∃a,a<ds.length/\d=(R a).d:=by
 obtain⟨i,hi,rfl⟩:=OC h;rw[YB]at hi;exact⟨i,hi,VS hi⟩
theorem zJu (l:List Rq) (now:Int):QC l (zH4 l now):=QC.filter _ _
theorem zVx {y:Cy} (h:CyI y) (hn:y.now<1000000000) {ins:List In} (hil:(ins.length:Int)=jM y.c.ags y.c.ags.length) (hin:∀i∈ins,InS i):∃R,TkR y ins R/\∀a,(R a).en.length<=2000/\(R a).ks.length<=2000:=by
 have hd:∀a,∃r:DR,(r.en.length<=2000/\r.ks.length<=2000)/\(a<y.ds.length->DtP y.c (y.now+1) (ME (y.ds.getD a default) (y.now+1)) (owI y.c ins a) r/\zN 110 [wT y.c,zJ (ME (y.ds.getD a default) (y.now+1)),zD jQ (owI y.c ins a),iA (y.now+1)] [] (drT r) []):=λa=>by
  by_cases ha:a<y.ds.length
  ·have hI:=h.di _ (yC y.ds a ha);obtain⟨b1,b2,_⟩:=zU7 hI (y.now+1);have hau:=hI.au;rw[h.dg a ha]at hau;have hs:=(h.v.av _ (yC y.c.ags a (by have:=h.dl;omega))).e;have n0:=h.n0
   obtain⟨r,hr⟩:=zKi y.c _ b1 (owI y.c ins a) (by unfold owI owP;rw[zXa,zYu];show _=(y.ds.getD a default).au.length;omega) (λi hi=>by
    unfold owI owP at hi;obtain⟨k,_,rfl⟩:=zYo.1 hi;by_cases hk:(jM y.c.ags a).toNat+k<ins.length
    ·exact hin _ (yC ins _ hk)
    ·rw[zXh,zX0 zB]
     exact⟨zXp _,λx hx=>by cases hx⟩) (y.now+1) zB zB
   exact⟨r,⟨hr.1.el,hr.1.kl⟩,λ_=>hr⟩
  ·exact⟨⟨default,[],[],[]⟩,⟨zXp _,zXp _⟩,λh=>absurd h ha⟩
 exact⟨λa=>(hd a).choose,λa ha=>(hd a).choose_spec.2 ha,λa=>(hd a).choose_spec.1⟩
theorem zP4 {y:Cy} (h:CyI y) {ins:List In} {R:Nat->DR} (hR:TkR y ins R):CyI (fO y R):=by
 have n0:=h.n0;have hg:=zBz h.v (sv:=y.sv) (now:=y.now) (UD R y.ds.length) y.sg h.gl h.j
 have hD:∀k,k<y.c.js.length->JI (y.c.js.getD k default) (DF y R k).1 (DF y R k).2 (y.now+1):=λk hk=>by
  have J:=h.v.jv _ (yC y.c.js k hk);have H:=hg.2 k hk;exact zWz J zB ⟨H.c,H.n,λe he=>by have:=H.e e he;omega,H.g⟩ _ _ _
 have hsl:=h.sl;refine⟨h.v,rfl,by show 0<=y.now+1;omega,(YB ..).trans h.dl,λd hd=>?_,λa ha=>?_,λd hd=>?_,?_,?_,?_,?_,λw hw=>?_,λk hk=>?_⟩
 ·obtain⟨a,ha,rfl⟩:=RQ hd;exact(hR a ha).1.i
 ·have ha':a<y.ds.length:=by rw[<-YB (y.now+1) y.ds R];exact ha
  show((SO (y.now+1) y.ds R y.ds.length).getD a default).rg.ag=_
  rw[VS ha',(hR a ha').1.ag];exact h.dg a ha'
 ·obtain⟨a,ha,rfl⟩:=RQ hd;refine(hR a ha).1.sc ?_;exact OR.of zB ((h.sc _ (yC y.ds a ha)).mono zB) (zJu _ _)
 ·show(ON _ _ _).length=_
  unfold ON;rw[vJ];exact hg.1
 ·show(OO _ _ _).length=_
  unfold OO;rw[vJ];exact h.sl
 ·show(IL _ _).length=_
  unfold IL;rw[vJ];exact h.tl
 ·show(stU _ _ _).length=_
  simp[stU,fO]
 ·unfold fO stU at hw;obtain⟨k,hk,rfl⟩:=zYo.1 hw;exact zO7 _ (h.v.jv _ (yC y.c.js k (zXz.1 hk))) _ _
 ·show JI _ ((ON (DF y R) (OD y.c y.sg (UD R y.ds.length)) y.c.js.length).getD k default) ((OO (DF y R) y.sv y.c.js.length).getD k default) _
  have hk':k<y.c.js.length:=hk;rw[zOj _ _ _ _ hk' (by rw[hg.1];exact hk'),zOk _ _ _ _ hk' zB];exact hD k hk
def DG (y:Cy) (ins:List In) (R:Nat->DR) (n a k:Nat):List Ms:=if(ins.getD ((jM y.c.ags a).toNat+k) default).opn=true then tlF (y.ds.getD a default) y.vw y.now k (R a).R (OP R n)else []
def CG (T:Nat->Nat->List Ms) (a k:Nat):List (List Ms):=(List.range k).map (T a)
def HI (c:Cf) (T:Nat->Nat->List Ms) (n:Nat):List (List Ms):=((List.range n).map λa=>CG T a (c.ags.getD a default).ses.toNat).flatten
def tdA (T:List (List Ms)) (f:Ms):AV:= .agg [zD aN T,zD zY [f]]
theorem zJv (T:Nat->Nat->List Ms) (a k:Nat):CG T a (k+1)=CG T a k++[T a k]:=by simp[CG,zZp]
theorem OE (c:Cf) (T:Nat->Nat->List Ms) (n:Nat):HI c T (n+1)=HI c T n++CG T n (c.ags.getD n default).ses.toNat:=by simp[HI,zZp]
theorem RR {c:Cf} (hw:IW c.ags) (T:Nat->Nat->List Ms):∀n,n<=c.ags.length->((HI c T n).length:Int)=jM c.ags n
 |0,_=>rfl
 |n+1,hn=>by
  have ih:=RR hw T n zB;have:=hw.at (i:=n) zB;rw[OE,zXb]
  show _=jM c.ags n+(c.ags.getD n default).ses
  have:(CG T n (c.ags.getD n default).ses.toNat).length=(c.ags.getD n default).ses.toNat:=by simp[CG]
  omega
theorem VT {c:Cf} (hw:IW c.ags) (T:Nat->Nat->List Ms):∀n,n<=c.ags.length->∀s,s<(HI c T n).length->∃a k:Nat,a<n/\(k:Int)<(c.ags.getD a default).ses/\s=(jM c.ags a).toNat+k/\(HI c T n).getD s []=T a k
 |0,_,s,hs=>by cases hs
 | n+1,hn,s,hs=>by
  have hl:=RR hw T n zB;rw[OE]at hs⊢;by_cases h:s<(HI c T n).length
  ·obtain⟨a,k,h1,h2,h3,h4⟩:=VT hw T n zB s h;refine⟨a,k,zB,h2,h3,?_⟩;rw[zXh,zX3 h,<-zXh];exact h4
  ·rw[zXb]at hs;have hp:(CG T n (c.ags.getD n default).ses.toNat).length=(c.ags.getD n default).ses.toNat:=by simp[CG]
   refine⟨n,s-(HI c T n).length,zB,zB,zB,?_⟩;rw[zXh,zX2 zB];unfold CG;rw[zXd,zX6 zB];rfl
theorem xO.frz {P:Program} {f:Nat} {args:List AV} {r:AV} {h1:List (Nat×xN)} {r':AV} {h1':List (Nat×xN)} (h:xO P f args [] r h1) (K:List Nat) (hr:XO (wN K (zC h1) r)=r') (hh:wS K (zC h1)=h1') (hnd:vX h1'=true):xO P f args [] r' h1':=
 ⟨h.able,λk=>qD hnd,λX w β cargs hc H ha=>(h.sim X w β cargs hc H ha).mono λe w' ⟨c,β',he,G,hv⟩=>by
  obtain⟨H3,hv3⟩:=G.hok.restr K;refine⟨c,λk=>if k∈K then β' k else [],he,⟨G.size,G.keep,λk b n hm=>?_,G.bs,λk e he=>by simp[zC]at he,by rw[<-hh];exact H3,G.os,G.tape,G.output⟩,?_⟩
  ·split at hm
   ·exact G.own k b n hm
   ·simp at hm
  ·rw[<-hh,<-hr]
   exact(hv3 _ _ hv).wk⟩
theorem zOm {R:Nat->DR} {n:Nat} {x:Int} (h:x∈UD R n):∃a,a<n/\x∈(R a).ks:=by
 unfold UD at h;obtain⟨l,hl,hx⟩:=yAv.1 h;obtain⟨a,ha,rfl⟩:=zYo.1 hl;exact⟨a,zXz.1 ha,hx⟩
theorem zB0 {R:Nat->DR} {n:Nat} {x:En} (h:x∈OP R n):∃a,a<n/\x∈(R a).en:=by
 unfold OP at h;obtain⟨l,hl,hx⟩:=yAv.1 h;obtain⟨a,ha,rfl⟩:=zYo.1 hl;exact⟨a,zXz.1 ha,hx⟩
def tdO (T:List (List Ms)) (f:Ms):AV:= .agg [.ref 1051 0 (T.map aN).length,zD zY [f]]
def tdH (T:List (List Ms)):List (Nat×xN):=[(1051,.arr 1 (T.map aN) true)]
theorem zOn (y:Cy) (h:CyI y) (hn:y.now<1000000000) (ins:List In) (hil:(ins.length:Int)=jM y.c.ags y.c.ags.length) (R:Nat->DR) (hR:TkR y ins R) (hen:∀i,(R i).en.length<=2000) (hks:∀i,(R i).ks.length<=2000):
  zN 18 [uM y,zD jQ ins] [] (.tup [uM (fO y R),tdO (HI y.c (DG (fO y R) ins R y.ds.length) y.c.ags.length) (ZH (y.now+1) (fO y R).vw)]) (tdH (HI y.c (DG (fO y R) ins R y.ds.length) y.c.ags.length)):=by
 have hb:=h.b;have n0:=h.n0;have hw:=h.v.ag;have k1:=RS y hb;have hdl:=h.dl;have k2:=zD4 y.c hw (y.now+1) zB zB y.ds h.dl (λi hi=>h.di _ (yC y.ds i hi)) ins hil R hen hks (λa ha=>(hR a ha).2) (y.sg.map vB) (y.sv.map wX) (y.st.map iA) (y.sg.map vB).length (y.sv.map wX).length (y.st.map iA).length y.vw;have hi9:=zA jQ ins;have hmin:min y.now 1073741823+1=y.now+1:=by omega
 have hrf:=h.rf;have eC:uM y= .agg [zD wP y.c.js,zD vH y.c.ags,iA y.c.per,iA y.c.cap,iA y.c.hold,iA y.c.lock,bA false,iA y.now,zD zJ y.ds,zD vB y.sg,zD wX y.sv,zD iA y.st,zD vL y.vw]:=by rw[<-hrf];rfl
 unfold zEc zEd YC at k1;rw[eC,hrf]at k1;unfold YC at k2;rw[eC];refine eM call18 λF hF=>?_
 refine zU k1 ?_;rw[hmin];refine zU k2 ?_;refine kK [2,3,4,5,6,7,1012,1013,1014] [2,3,4,5,6,7,34,35,36] rfl ?_
 (conv=>whnf)
 have hds:(y.ds.map zJ).length=((SO (y.now+1) y.ds R y.ds.length).map zJ).length:=by rw[zXa,zXa,YB]
 have hgl:=zA vB y.sg;have hvl:=zA wX y.sv;have htl:=zA iA y.st;have hgl2:=h.gl;have hvl2:=h.sl;have htl2:=h.tl;simp only[zYf];rw[hds,zXe,hgl,hvl,htl,hgl2,hvl2,htl2];clear k1 k2
 have hkx:∀x∈UD R y.ds.length,0<=x/\x<(y.c.js.length:Int):=λx hx=>by
  obtain⟨a,ha,hx⟩:=zOm hx;exact(hR a ha).1.ks x hx
 have hkl:=IO hks y.ds.length;have hags:=h.v.a;have hks9:(UD R y.ds.length).length<=10000:=by omega
 have hjl:=zA wP y.c.js;have hkm:=zA iA (UD R y.ds.length);have eY:fO y R=⟨y.c,false,y.now+1,SO (y.now+1) y.ds R y.ds.length,ON (DF y R) (OD y.c y.sg (UD R y.ds.length)) y.c.js.length,OO (DF y R) y.sv y.c.js.length,IL y.st y.c.js.length,stU y.c.js (DF y R) y.c.js.length⟩:=rfl;refine yB ((UD R y.ds.length)) [1012,2,3,4,5,6,7,1013,1014] [2,3,4,5,6,7,1013,1014] [2,3,4,5,6,7,34,35,86] [36,2,3,4,5,6,7,34,35,86] rfl (λi pre T U=>⟨(36,iA i)::T,(1012,.arr 5 ((OD y.c y.sg pre).map vB) false)::U⟩) ?_;(conv=>whnf);refine⟨by rfl,?_,?_⟩
 ·intro i pre x post hx hi;have hy:=yP iA hx hi;have hlt:=yF hx hi;have hxb:=hkx x (xV hx);obtain⟨g1,g2⟩:=zBz h.v (sv:=y.sv) (now:=y.now) pre y.sg h.gl h.j;have J:=h.v.jv _ (yC y.c.js x.toNat zB);have C:=(g2 x.toNat zB).c;have hJ:=J.n;have hC:=C.n;have hM:=C.m;have kr:=zEm (y.c.js.getD x.toNat default) J ((OD y.c y.sg pre).getD x.toNat default) zB zB;have hyj:=yM wP y.c.js x hxb.1 hxb.2;have hyg:=yM vB (OD y.c y.sg pre) x hxb.1 zB;have hgl3:=zA vB (OD y.c y.sg pre);rw[zJt,zZh];clear hx hkx eY hR J C g2;generalize (OD y.c y.sg pre).getD x.toNat default=s at *;generalize y.c.js.getD x.toNat default=j at *;generalize OD y.c y.sg pre=X at *;generalize X.map vB=Y at *;refine zU kr ?_;rfl
 ·obtain⟨g1,g2⟩:=zBz h.v (sv:=y.sv) (now:=y.now) (UD R y.ds.length) y.sg h.gl h.j
  have kst:=zJs y.c h.v (y.now+1) zB zB (SO (y.now+1) y.ds R y.ds.length) (by rw[YB];omega) (λd hd=>by
    obtain⟨a,ha,rfl⟩:=RQ hd
    exact(hR a ha).1.i) (λd hd=>by
    obtain⟨a,ha,rfl⟩:=RQ hd;refine(hR a ha).1.sc ?_
    exact OR.of zB ((h.sc _ (yC y.ds a ha)).mono zB) (zJu _ _)) (OD y.c y.sg (UD R y.ds.length)) y.sv y.st y.vw g1 h.sl h.tl (λk hk=>by
    have H:=g2 k hk
    exact⟨H.c,H.n,λe he=>by have:=H.e e he;omega,H.g⟩)
  have l1:((OD y.c y.sg (UD R y.ds.length)).map vB).length=y.c.js.length:=by rw[zXa];exact g1
  have l2:(y.sv.map wX).length=y.c.js.length:=by rw[zXa];exact h.sl
  have l3:(y.st.map iA).length=y.c.js.length:=by rw[zXa];exact h.tl
  have l4:((ON (DF y R) (OD y.c y.sg (UD R y.ds.length)) y.c.js.length).map vB).length=y.c.js.length:=by unfold ON;rw[zXa,vJ];exact g1
  have l5:((OO (DF y R) y.sv y.c.js.length).map wX).length=y.c.js.length:=by unfold OO;rw[zXa,vJ];exact h.sl
  have l6:((IL y.st y.c.js.length).map iA).length=y.c.js.length:=by unfold IL;rw[zXa,vJ];exact h.tl
  have l7:((stU y.c.js (DF y R) y.c.js.length).map vL).length=y.c.js.length:=by simp[stU]
  have hal:=zA vH y.c.ags;unfold stH at kst;rw[show ZG y.c (OD y.c y.sg (UD R y.ds.length)) y.sv y.st (SO (y.now+1) y.ds R y.ds.length) (y.now+1)=DF y R from rfl,zOl,l1,l2,l3,l4,l5,l6]at kst;have eT:uM (fO y R)= .agg [zD wP y.c.js,zD vH y.c.ags,iA y.c.per,iA y.c.cap,iA y.c.hold,iA y.c.lock,bA false,iA (y.now+1),zD zJ (fO y R).ds,zD vB (fO y R).sg,zD wX (fO y R).sv,zD iA (fO y R).st,zD vL (fO y R).vw]:=rfl;have d1:SO (y.now+1) y.ds R y.ds.length=(fO y R).ds:=rfl;have d2:ON (DF y R) (OD y.c y.sg (UD R y.ds.length)) y.c.js.length=(fO y R).sg:=rfl;have d3:OO (DF y R) y.sv y.c.js.length=(fO y R).sv:=rfl;have d4:IL y.st y.c.js.length=(fO y R).st:=rfl;have d5:stU y.c.js (DF y R) y.c.js.length=(fO y R).vw:=rfl;rw[d2]at kst l4;rw[d3]at kst l5;rw[d4]at kst l6;rw[d5]at kst l7;rw[d1]at kst⊢;refine zU kst ?_;refine kK [2,3,4,5,6,7,11] [2,3,4,5,6,7,11,78,79] rfl ?_
  (conv=>whnf)
  simp only[zYf];rw[zXk (l:=(fO y R).sg.map vB) (zZa l4),zXk (l:=(fO y R).sv.map wX) (zZa l5),zXk (l:=(fO y R).st.map iA) (zZa l6),zXk (l:=(fO y R).vw.map vL) (zZa l7),hal];have hZ:=zP4 h hR;have zc:(fO y R).c=y.c:=rfl;have zn:(fO y R).now=y.now+1:=rfl;have zd:(fO y R).ds.length=y.ds.length:=YB ..;have zR:∀a,a<y.ds.length->(fO y R).ds.getD a default=(R a).d:=λa ha=>VS ha
  have hzl:=zA zJ (fO y R).ds;have eA:∀T f,tdO T f= .agg [.ref 1051 0 (T.map aN).length,zD zY [f]]:=λ_ _=>rfl
  have eH:∀T,tdH T=[(1051,.arr 1 (T.map aN) true)]:=λ_=>rfl
  rw[eT,eA,eH];clear d1 d2 d3 d4 d5 kst l1 l2 l3 l4 l5 l6 l7 g1 g2 hkx eY hds;refine vT 11 0 1051 1 rfl rfl rfl rfl rfl ?_
  have hTf:∀a k,DG (fO y R) ins R y.ds.length a k=if(ins.getD ((jM y.c.ags a).toNat+k) default).opn=true then tlF ((fO y R).ds.getD a default) (fO y R).vw (fO y R).now k (R a).R (OP R y.ds.length)else []:=λ_ _=>rfl
  generalize DG (fO y R) ins R y.ds.length=tf at *;generalize fO y R=z at *;refine zP (y.c.ags.length) [11,1051,2,3,4,5,6,7] [2,3,4,5,6,7] [2,3,4,5,6,7,11,78,86] [79,2,3,4,5,6,7,11,78,86] rfl (λi T U=>⟨(79,iA i)::T,(11,.box [.ref 1051 0 ((HI y.c tf i).map aN).length,.s (.slice none 0 0)])::(1051,.arr 1 ((HI y.c tf i).map aN) true)::U⟩) ?_;(conv=>whnf);refine⟨by rfl,?_,?_⟩
  ·intro i hi;have hid:i<y.ds.length:=by omega
   have ks:=zAm y.c i;have ht:=zEk y.c hw i hi;obtain⟨bs,hbs⟩:∃bs:Nat,jM y.c.ags i=(bs:Int):=⟨(jM y.c.ags i).toNat,by have:=kY hw i zB;omega⟩;obtain⟨N,hN⟩:∃N:Nat,(y.c.ags.getD i default).ses=(N:Int):=⟨(y.c.ags.getD i default).ses.toNat,by have:=hw.at (i:=i) zB;omega⟩
   have hbd:bs+N<=ins.length:=by
    have:=DL hw (show i+1<=y.c.ags.length by omega) (zXc _);have h2:jM y.c.ags (i+1)=jM y.c.ags i+(y.c.ags.getD i default).ses:=rfl;omega
   have hN2:=hw.at (i:=i) zB;have hL:LH y.c i=(List.range N).map λk=>[plA i k (bs+k)]:=by unfold LH;rw[hbs,hN];rfl
   have htd:=RR hw tf i zB;have hsb:=kY hw i zB;rw[OE,show(y.c.ags.getD i default).ses.toNat=N by omega]
   have hy6:(List.map (λk=>rpA (R k)) (List.range y.ds.length))[i]? =some (.sl false ((R i).R.map aN)):=by
    rw[zXd,zX6 hid];rfl
   have hDt:=(hR i hid).1;have hI:=hZ.di _ (yC z.ds i zB);have hzi:=zR i hid
   have hau:(R i).d.au.length=N:=by
    have:=hDt.i.au;rw[hDt.ag]at this;have e9:=h.dg i hid;rw[show(ME (y.ds.getD i default) (y.now+1)).rg.ag=(y.ds.getD i default).rg.ag from rfl,e9]at this;omega
   have hau2:(ME (y.ds.getD i default) (y.now+1)).au.length=N:=by
    have:=(h.di _ (yC y.ds i hid)).au;rw[h.dg i hid]at this
    show(y.ds.getD i default).au.length=N
    omega
   have hRl:=hDt.rn;rw[hau2]at hRl;have hRv:=hDt.rv
   have hEn:∀e∈OP R y.ds.length,EnK e:=λe he=>by
    obtain⟨a,ha,he⟩:=zB0 he;exact(hR a ha).1.en e he
   have hEl:=IN hen y.ds.length;have hq9:=hI.a.q;have kt:=λk (hk:k<N)=>zO1 z hZ.n0 zB i k (bs+k) zB hI.bd hq9 (by have:=hZ.wl;have:=hZ.v.j;omega) hZ.wb (by rw[hzi];omega) (R i).R hRv zB (OP R y.ds.length) hEn zB
   have hTf':∀k,k<N->tf i k=if(ins.getD (bs+k) default).opn=true then tlF (z.ds.getD i default) z.vw z.now k (R i).R (OP R y.ds.length)else []:=λk hk=>by
    rw[hTf i k,hbs];rfl
   clear hTf hEn hRv hR hDt hI zR;have eZ:uM z= .agg [zD wP y.c.js,zD vH y.c.ags,iA y.c.per,iA y.c.cap,iA y.c.hold,iA y.c.lock,bA false,iA (y.now+1),zD zJ z.ds,zD vB z.sg,zD wX z.sv,zD iA z.st,zD vL z.vw]:=eT;rw[eZ]at kt;rw[show zD aN (R i).R= .sl false ((R i).R.map aN)from rfl]at kt;generalize (R i).R.map aN=Rm at *;rw[zXf];have hxl:=zA aN (HI y.c tf i);generalize (HI y.c tf i).map aN=X at *;unfold zCk at ks ht;unfold wT at ks;refine zU ks ?_
   refine vO hF ht rfl [2,3,4,5,6,7,11,12,1051] [2,3,4,5,6,7,11,12,78,79] rfl rfl rfl rfl rfl rfl rfl rfl rfl (λk ys h=>?_) (λk=>[(2,.box [zD wP y.c.js,zD vH y.c.ags,iA y.c.per,iA y.c.cap,iA y.c.hold,iA y.c.lock,bA false,iA (y.now+1),zD zJ z.ds,zD vB z.sg,zD wX z.sv,zD iA z.st,zD vL z.vw]),(3,.box [zD jQ ins]),(4,.box [.s (.slice none 0 0),.s (.slice none 0 0),iA 0,iA 0,iA 0,iA 0,bA false,iA 0,.s (.slice none 0 0),.s (.slice none 0 0),.s (.slice none 0 0),.s (.slice none 0 0),.s (.slice none 0 0)]),(5,.box [.s (.slice none 0 0),.s (.slice none 0 0)]),(6,.box [.sl false (List.map (λk=>rpA (R k)) (List.range y.ds.length))]),(7,.box [zD jZ (OP R y.ds.length)]),(11,.box [.ref 1051 0 (X++(CG tf i k).map aN).length,.s (.slice none 0 0)]),(12,.box [iA i]),(1051,.arr 1 (X++(CG tf i k).map aN) true)]) (λ_=>True)
    (T:=[(2,.ptr 2 0 0),(3,.ptr 3 0 0),(4,.ptr 4 0 0),(5,.ptr 5 0 0),(6,.ptr 6 0 0),(7,.ptr 7 0 0),(11,.ptr 11 0 0),(12,.ptr 12 0 0),(78,iA y.c.ags.length),(79,iA i)]) (by rw[show(CG tf i 0).map aN=[]from rfl,zX8];rfl) trivial (λk ys q hys hI9 F1 h1 h2=>?_) (λhI9=>?_)
   ·rw[hL,zXd,zXn]at h;obtain⟨x,_,rfl⟩:=h;rfl
   ·have hk:k<N:=by
     have:=(zXv.1 hys).1;rw[hL,zXa,zYu]at this;exact this
    rw[hL,zXd,zX6 hk]at hys;obtain rfl:=zZr hys;have hyi:=zM jQ ins (bs+k) zB;have hol:((CG tf i k).map aN).length=k:=by unfold CG;rw[zXa,zXa,zYu]
    have kt:=kt k hk;rw[zJv,zXf,show [tf i k].map aN=[zD zY (tf i k)]from rfl,hTf' k hk,<-zXy];generalize (CG tf i k).map aN=O at *;generalize ins.getD (bs+k) default=x at *;generalize tlF (z.ds.getD i default) z.vw z.now k (R i).R (OP R y.ds.length)=tl at *;unfold jQ at hyi;obtain⟨xo,xs⟩:=x;refine WW ?_;refine⟨rfl,λF2 g1 g2=>?_⟩;dsimp only at hyi⊢;cases xo
    ·rw[zW8 zXx]
     (repeat' (first|refine aU ?_|refine xQ (λhc=>?_) (λhc=>?_)|refine wD (λhc=>?_)|(refine zE ?_;first|(refine yT ?_;refine SI 117 rfl rfl rfl ?_;refine qX tok rfl rfl ?_))|refine SB ?_|fail))
     exact⟨rfl,trivial⟩
    ·rw[zW9 rfl]
     (have zc1:=kt;(repeat' (first|refine aU ?_|refine xQ (λhc=>?_) (λhc=>?_)|refine wD (λhc=>?_)|(refine zE ?_;first|(refine yT ?_;refine SI 117 rfl rfl rfl ?_;refine qX tok rfl rfl ?_))|refine SB ?_|fail))<;>clear zc1)
     exact⟨rfl,trivial⟩
   ·rw[show(LH y.c i).length=N by rw[hL,zXa,zYu]]
    show uC _ _ _ _ ⟨_,_⟩ _
    refine WW ?_;rfl
  ·have hwl:z.vw.length<=4:=by have:=hZ.wl;have:=hZ.v.j;omega
   have kf:=zKm (y.now+1) z.vw zB hZ.wb;have kv:=DQ [ZH (y.now+1) z.vw] zS (λm hm=>by rw[zX9.1 hm];exact zV3 z.vw (y.now+1) zB zB hwl hZ.wb);rw[show zD zY [ZH (y.now+1) z.vw]= .sl false [zY (ZH (y.now+1) z.vw)]from rfl]at *; generalize ZH (y.now+1) z.vw=fm at *;have hxl:=zA aN (HI y.c tf y.c.ags.length);generalize (HI y.c tf y.c.ags.length).map aN=X at *;refine zU kf ?_
   (refine uI 67 ?_;refine jY [2,4,5,11,1051] [2,4,5,11,127] rfl ?_;(conv=>whnf);(try simp only[zYf,zXe]);first|refine xK (zI (kv) rfl rfl rfl rfl rfl) rfl ?_|refine uG (zI (kv) rfl rfl rfl rfl rfl) rfl rfl rfl ?_|refine aD (zI (kv) rfl rfl rfl rfl rfl) rfl rfl rfl ?_)
   refine WW ?_;exact zH [1051] rfl rfl rfl rfl
theorem zTe {y y':Cy} {ins:List In} {T:List (List Ms)} {f:Ms} (k:zN 18 [uM y,zD jQ ins] [] (.tup [uM y',tdO T f]) (tdH T)):zN 18 [uM y,zD jQ ins] [] (.tup [uM y',tdA T f]) []:=by
 refine k.frz [] ?_ rfl rfl
 show AV.tup [_,AV.agg [AV.sl false (List.take (T.map aN).length (T.map aN)),_]]=_
 rw[zXe];rfl
structure MtP (y y':Cy) (ins:List In) (T:List (List Ms)):Prop where
 i:CyI y'
 c:y'.c=y.c
 n:y'.now=y.now+1
 l:T.length=ins.length
 v:∀x∈T,x.length<=1002/\∀m∈x,YQ m
 f:YQ (ZH (y.now+1) y'.vw)
 off:∀s,s<ins.length->(ins.getD s default).opn=false->T.getD s []=[]
 on:∀s,s<ins.length->(ins.getD s default).opn=true->∃(l1 l2:List Ms) (d:xP),T.getD s []=l1++(OV d y'.vw (y.now+1)::l2)/\l1.length=(ins.getD s default).its.length/\YQ (OV d y'.vw (y.now+1))
 tk:∃R,TkR y ins R/\y'=fO y R/\T=HI y.c (DG y' ins R y.ds.length) y.c.ags.length
theorem zJw (y:Cy) (h:CyI y) (hn:y.now<1000000000) (ins:List In) (hil:(ins.length:Int)=jM y.c.ags y.c.ags.length) (hin:∀i∈ins,InS i):
  ∃(y':Cy) (T:List (List Ms)),MtP y y' ins T/\zN 18 [uM y,zD jQ ins] [] (.tup [uM y',tdO T (ZH (y.now+1) y'.vw)]) (tdH T):=by
 obtain⟨R,hR,hb⟩:=zVx h hn hil hin;have k:=zOn y h hn ins hil R hR (λi=>(hb i).1) (λi=>(hb i).2);have hZ:=zP4 h hR;have n0:=h.n0;have hw:=h.v.ag;have hdl:=h.dl;have hl:=RR hw (DG (fO y R) ins R y.ds.length) _ (zXc _);have hwl:(fO y R).vw.length<=4:=by have:=hZ.wl;have:=hZ.v.j;omega
 have hEn:∀e∈OP R y.ds.length,EnK e:=λe he=>by
  obtain⟨a,ha,he⟩:=zB0 he;exact(hR a ha).1.en e he
 refine⟨fO y R,HI y.c (DG (fO y R) ins R y.ds.length) y.c.ags.length,⟨hZ,rfl,rfl,zB,λx hx=>?_,zV3 _ _ zB zB hwl hZ.wb,λs hs ho=>?_,λs hs ho=>?_,R,hR,rfl,rfl⟩,k⟩
 ·obtain⟨s,hs,e⟩:=yA7.1 hx;obtain⟨a,k,h1,h2,h3,h4⟩:=VT hw (DG (fO y R) ins R y.ds.length) _ (zXc _) s hs;have e2:x=DG (fO y R) ins R y.ds.length a k:=by rw[<-h4,zXh,zXr hs,<-e];rfl
  rw[e2];unfold DG;split
  ·have hid:a<y.ds.length:=by omega
   have hDt:=(hR a hid).1
   have hau2:((ME (y.ds.getD a default) (y.now+1)).au.length:Int)=(y.c.ags.getD a default).ses:=by
    have:=(h.di _ (yC y.ds a hid)).au;rw[h.dg a hid]at this;exact this
   have hRl:=hDt.rn;have hq:=hDt.i.a.q;have hzi:(fO y R).ds.getD a default=(R a).d:=VS hid;rw[hzi];exact zP6 _ hq _ _ (by show 0<=y.now+1;omega) (by show y.now+1<=_;omega) hwl hZ.wb k (R a).R hDt.rv zB _ hEn
  ·exact⟨zXp _,λm hm=>by cases hm⟩
 ·obtain⟨a,k,h1,h2,h3,h4⟩:=VT hw (DG (fO y R) ins R y.ds.length) _ (zXc _) s zB;rw[h4];unfold DG;rw[show(jM (fO y R).c.ags a).toNat+k=s from h3.symm,ho,zW8 zXx]
 ·obtain⟨a,k,h1,h2,h3,h4⟩:=VT hw (DG (fO y R) ins R y.ds.length) _ (zXc _) s zB;have hid:a<y.ds.length:=by omega
  have hDt:=(hR a hid).1
  have hau2:((ME (y.ds.getD a default) (y.now+1)).au.length:Int)=(y.c.ags.getD a default).ses:=by
   have:=(h.di _ (yC y.ds a hid)).au;rw[h.dg a hid]at this;exact this
  have hq:=hDt.i.a.q;have hzi:(fO y R).ds.getD a default=(R a).d:=VS hid;have hrl:=hDt.rl k zB;have hol:(owI y.c ins a).length=(y.c.ags.getD a default).ses.toNat:=by unfold owI owP;rw[zXa,zYu]
  have hog:(owI y.c ins a).getD k default=ins.getD s default:=by
   unfold owI owP;rw[zXh,zXd,zX6 zB,h3];rfl
  have hsi:dJ (owI y.c ins a) k=(ins.getD s default).its:=by
   unfold dJ;rw[hog,zW9 ⟨zB,ho⟩]
  rw[hsi]at hrl;refine⟨(R a).R.getD k [],(if((fO y R).ds.getD a default).au.getD k default=true then [trM (fO y R).now (OP R y.ds.length)]else []),(fO y R).ds.getD a default,?_,hrl,?_⟩
  ·rw[h4];unfold DG;rw[show(jM (fO y R).c.ags a).toNat+k=s from h3.symm,ho,zW9 rfl];unfold tlF;rw[zXy];rfl
  ·rw[hzi];exact zP5 _ hq _ _ zB zB hwl hZ.wb
theorem zD3 (y:Cy) (h:CyI y) (j p:Int):∃y':Cy,CyI y'/\y'.c=y.c/\(y'.now=y.now/\y'.sg=y.sg)/\zN 56 [uM y,iA j,iA p] [] (uM y') []:=by
 have hb:=h.b;have hrf:=h.rf;have hjl:=zA wP y.c.js;have htl:=zA iA y.st;have htl2:=h.tl;have eC:uM y= .agg [zD wP y.c.js,zD vH y.c.ags,iA y.c.per,iA y.c.cap,iA y.c.hold,iA y.c.lock,bA false,iA y.now,zD zJ y.ds,zD vB y.sg,zD wX y.sv,zD iA y.st,zD vL y.vw]:=by rw[<-hrf];rfl
 by_cases hj:0<=j/\j<(y.c.js.length:Int)
 case neg=>
  refine⟨y,h,rfl,⟨rfl,rfl⟩,?_⟩;have k1:=aI y hb;rw[eC]at k1⊢;by_cases h0:j<0
  ·(refine eM call56 λF hF=>?_)
   refine zU k1 ?_;exact zK
  ·(refine eM call56 λF hF=>?_)
   refine zU k1 ?_;exact zK
 obtain⟨j0,j1⟩:=hj;have hyj:=yM wP y.c.js j j0 j1;have hpl:=zA wY (y.c.js.getD j.toNat default).ph;by_cases hp:0<=p/\p<((y.c.js.getD j.toNat default).ph.length:Int)
 case neg=>
  refine⟨y,h,rfl,⟨rfl,rfl⟩,?_⟩;have k1:=aI y hb;rw[eC]at k1⊢;generalize y.c.js.getD j.toNat default=jn at *;unfold wP at hyj;by_cases h0:p<0
  ·(refine eM call56 λF hF=>?_)
   refine zU k1 ?_;exact zK
  ·(refine eM call56 λF hF=>?_)
   refine zU k1 ?_;exact zK
 obtain⟨p0,p1⟩:=hp;refine⟨⟨y.c,false,y.now,y.ds,y.sg,y.sv,y.st.set j.toNat p,y.vw⟩,⟨h.v,rfl,h.n0,h.dl,h.di,h.dg,h.sc,h.gl,h.sl,by dsimp only;rw[zY3];exact h.tl,h.wl,h.wb,h.j⟩,rfl,⟨rfl,rfl⟩,?_⟩;have k1:=RS y hb;unfold zEc zEd YC at k1;rw[eC,hrf]at k1;rw[eC];have e2:(y.st.set j.toNat p).map iA=(y.st.map iA).set j.toNat (iA p):=zZh ..;rw[show uM ⟨y.c,false,y.now,y.ds,y.sg,y.sv,y.st.set j.toNat p,y.vw⟩= .agg [zD wP y.c.js,zD vH y.c.ags,iA y.c.per,iA y.c.cap,iA y.c.hold,iA y.c.lock,bA false,iA y.now,zD zJ y.ds,zD vB y.sg,zD wX y.sv,.sl false ((y.st.map iA).set j.toNat (iA p)),zD vL y.vw] by rw[<-e2];rfl];clear e2;have hyt:=yM iA y.st j j0 zB;generalize y.c.js.getD j.toNat default=jn at *;unfold wP at hyj;refine eM call56 λF hF=>?_
 refine zU k1 ?_;refine zH [] rfl rfl ?_ rfl
 show AV.agg [_,_,_,_,_,_,_,_,.sl false (List.take (y.ds.map zJ).length (y.ds.map zJ)),.sl false (List.take (y.sg.map vB).length (y.sg.map vB)),.sl false (List.take (y.sv.map wX).length (y.sv.map wX)),.sl false (List.take (y.st.map iA).length ((y.st.map iA).set j.toNat (iA p))),_]=_
 rw[zXe,zXe,zXe,zXk (by rw[zY3];exact zXc _)];rfl
section
open Classical in
noncomputable def SJ (m:Ms):List Int:=if h:YQ m then HF m.kind (dG h.2).choose else []
theorem DH (m:Ms) (h:YQ m):((SJ m).length<=300/\(m.args≠[]->∃q:List Int,SJ m=90::165::1::m.kind::q/\7<=q.length))/\zN 20 [zY m] [] (.tup [zD yA (SJ m),iA 0]) []:=by
 have hs:=(dG h.2).choose_spec;have e:SJ m=HF m.kind (dG h.2).choose:=by unfold SJ;rw[yCn h]
 rw[e];generalize (dG h.2).choose=p at *;obtain⟨h1,h2,h3⟩:=hs;obtain⟨k,tk,ar,da⟩:=m;obtain⟨h4,h5⟩:=h;dsimp only at *;subst h4;refine⟨⟨?_,λh9=>?_⟩,h3⟩
 ·simp only[HF,NM,zXl,zXb,zXa,zYu];have:(dW k p.length).length<=10:=by unfold dW;simp
  have:=h2.1;omega
 ·refine⟨0::(p.length:Int)::(p++NM (dM (dW k p.length++p))),by simp[HF,dW],?_⟩;have h8:=h2.2 h9;simp only[NM,zXl,zXb,zXa,zYu];omega
noncomputable def gQ (l:List Ms):List Int:=(l.map SJ).flatten
theorem zJx (l:List Ms) (m:Ms):gQ (l++[m])=gQ l++SJ m:=by simp[gQ]
theorem IM:∀{l:List Ms},(∀m∈l,YQ m)->(gQ l).length<=300*l.length
 | [],_=>zXp _
 |m::l,h=>by
  have h1:=(DH m (h m zS)).1.1;have h2:=IM (l:=l) λx hx=>h x VK
  have e:gQ (m::l)=SJ m++gQ l:=rfl;rw[e,zXb,zXl];omega
theorem LC (l:List Ms) (hl:l.length<=1002) (h:∀m∈l,YQ m):zN 98 [zD zY l] [] (zD yA (gQ l)) []:=by
 have hml:=zA zY l;refine eM call98 λF hF=>?_
 refine WW ?_;refine xG 3 1001 1 rfl rfl rfl ?_;refine yB (l) [1001] [] [8,9] [3,10,8,9] rfl (λi pre T U=>⟨(3,.ref 1001 0 ((gQ pre).map yA).length)::(10,iA i)::T,(1001,.arr 1 ((gQ pre).map yA) true)::U⟩) ?_;(conv=>whnf);refine⟨by rfl,?_,?_⟩
 ·intro i pre x post hx hi;have hy:=yP zY hx hi;have hlt:=yF hx hi;obtain⟨⟨c1,_⟩,c2⟩:=DH x (h x (xV hx));have hpl:=IM (l:=pre) λm hm=>h m (by rw[hx];simp[hm])
  have hpm:=zA yA (gQ pre);have hbm:=zA yA (SJ x);rw[zJx,zXf];clear hx;generalize gQ pre=X at *;generalize SJ x=Y at *;unfold zY at *;refine zU c2 ?_;rfl
 ·(refine WW ?_)
  exact zH [] rfl rfl (zX7 (AV.sl false) zXe) rfl
structure UC where
 y:Cy
 ss:List Ss
def XT (y:Cy) (s:AV):AV:= .agg [zD wP y.c.js,zD vH y.c.ags,iA y.c.per,iA y.c.cap,iA y.c.hold,iA y.c.lock,bA false,iA y.now,zD zJ y.ds,zD vB y.sg,zD wX y.sv,zD iA y.st,zD vL y.vw,s]
def cF (b:UC):AV:=XT b.y (zD jJ b.ss)
structure BrI (b:UC):Prop where
 y:CyI b.y
 l:(b.ss.length:Int)=jM b.y.c.ags b.y.c.ags.length
 s:∀s∈b.ss,SsI s
def sdA (S:List (List Int)) (f:List Int):AV:= .agg [zD (zD yA) S,zD yA f]
def fE (ss:List Ss):List In:=ss.map λs=>(VU s).2
def OF (ss:List Ss) (i:Nat):List AV:=(List.range ss.length).map λk=>if k<i then jQ (VU (ss.getD k default)).2 else .agg [bA false,.s (.slice none 0 0)]
def cG (ss:List Ss) (i:Nat):List Ss:=WI (λ_ s=>(VU s).1) ss i
noncomputable def TB (T:List (List Ms)) (i:Nat):List AV:=(List.range T.length).map λk=>if k<i then zD yA (gQ (T.getD k default))else .s (.slice none 0 0)
theorem zJy (ss:List Ss):OF ss ss.length=(fE ss).map jQ:=by
 unfold OF fE;rw[eG,yBc];apply zYp;intro j;rw[zXd,zXd];by_cases hj:j<ss.length
 ·rw[zX6 hj,zXr hj];simp only[Option.map_some,Function.comp,zXh,zXr hj,zZg]
 ·rw[zX0 wQ,zX0 zB];rfl
theorem zJz (T:List (List Ms)):TB T T.length=(T.map gQ).map (zD yA):=by
 unfold TB;rw[eG,yBc];apply zYp;intro j;rw[zXd,zXd];by_cases hj:j<T.length
 ·rw[zX6 hj,zXr hj];simp only[Option.map_some,Function.comp,zXh,zXr hj,zZg]
 ·rw[zX0 wQ,zX0 zB];rfl
theorem zJ0 (b:UC) (h:BrI b) (y':Cy) (Td:List (List Ms)) (hM:MtP b.y y' (fE b.ss) Td) (k:zN 18 [uM b.y,zD jQ (fE b.ss)] [] (.tup [uM y',tdA Td (ZH (b.y.now+1) y'.vw)]) []):
  zN 57 [XT b.y (.ref 1021 0 b.ss.length)] [(1021,.arr 4 (b.ss.map jJ) false)] (.tup [XT y' (.ref 1021 0 b.ss.length),sdA (Td.map gQ) (gQ [ZH (b.y.now+1) y'.vw])]) [(1021,.arr 4 ((cG b.ss b.ss.length).map jJ) false)]:=by
 obtain⟨y,ss⟩:=b;have hy:=h.y;have hs:=h.s;have hl:=h.l;dsimp only at *;have hw:=hy.v.ag;have hrf:=hy.rf
 have hsb:ss.length<=8:=by
  have:=kY hw y.c.ags.length (zXc _);have:=hw.1;omega
 have hrf':=hM.i.rf;have hTl:=hM.l;have hil:(fE ss).length=ss.length:=by unfold fE;rw[zXa]
 rw[hil]at hTl;have eC:uM y= .agg [zD wP y.c.js,zD vH y.c.ags,iA y.c.per,iA y.c.cap,iA y.c.hold,iA y.c.lock,bA false,iA y.now,zD zJ y.ds,zD vB y.sg,zD wX y.sv,zD iA y.st,zD vL y.vw]:=by rw[<-hrf];rfl
 have eC':uM y'= .agg [zD wP y'.c.js,zD vH y'.c.ags,iA y'.c.per,iA y'.c.cap,iA y'.c.hold,iA y'.c.lock,bA false,iA y'.now,zD zJ y'.ds,zD vB y'.sg,zD wX y'.sv,zD iA y'.st,zD vL y'.vw]:=by rw[<-hrf'];rfl
 rw[eC,eC',show∀f,tdA Td f= .agg [.sl false (Td.map aN),zD zY [f]]from λ_=>rfl]at k;have hTv:=hM.v;have kf:=LC [ZH (y.now+1) y'.vw] zS (λm hm=>by rw[zX9.1 hm];exact hM.f);generalize ZH (y.now+1) y'.vw=fm at *;have hsl:=zA jJ ss
 have hi0:OF ss 0=List.replicate ss.length (.agg [bA false,.s (.slice none 0 0)]):=by
  unfold OF;apply zYp;intro j;rw[zXd,zY4];by_cases hj:j<ss.length
  ·rw[zX6 hj,zW9 hj];simp
  ·rw[zW8 hj,zX0 wQ];rfl
 have hs0:cG ss 0=ss:=jP _ _;unfold XT;refine eM call57 λF hF=>?_
 refine WW ?_;have hsn:∀i,((cG ss i).map jJ).length=ss.length:=λi=>by unfold cG;rw[zXa,vJ]
 have hin:∀i,(OF ss i).length=ss.length:=λi=>by unfold OF;rw[zXa,zYu]
 refine zP (ss.length) [1021,14,1,2,3] [1,2,3] [1,2,3,4,17] [18,1,2,3,4,17] rfl (λi T U=>⟨(18,iA i)::T,(1021,.arr 4 ((cG ss i).map jJ) false)::(14,.arr 2 (OF ss i) false)::U⟩) ?_;(conv=>whnf);refine⟨by(rw[hi0,hs0];rfl),?_,?_⟩
 ·intro i hi;have hys:((cG ss i).map jJ)[i]? =some (jJ (ss.getD i default)):=by rw[zXd];unfold cG;rw[uX,zW9 hi,zW8 (yBg i)];rfl
  have hyi:(OF ss i)[i]? =some (.agg [bA false,.s (.slice none 0 0)]):=cT _ _ _ _ hi;have e1:(cG ss (i+1)).map jJ=((cG ss i).map jJ).set i (jJ (VU (ss.getD i default)).1):=by unfold cG;rw[qO _ _ _ _ hi]
  have e2:OF ss (i+1)=(OF ss i).set i (jQ (VU (ss.getD i default)).2):=eE _ _ _ _ hi;have hI:=hs _ (yC ss i hi);have kt:=zOp (ss.getD i default) hI.y (by have:=hI.n;omega);have h1:=hsn i;have h2:=hin i;rw[e1,e2];clear e1 e2 hi0 hs0 hI hs hTv k;generalize (cG ss i).map jJ=X at *;generalize OF ss i=Y at *;generalize (VU (ss.getD i default)).1=s1 at *;generalize (VU (ss.getD i default)).2=n1 at *;generalize ss.getD i default=s0 at *;refine zU kt ?_;rfl
 ·rw[zJy];refine kK [1,2,3,1021] [1,2,3,4,17,18] rfl ?_
  (conv=>whnf)
  have hbm:=zA jQ (fE ss);simp only[zYf];rw[zXk (l:=(fE ss).map jQ) zB];have hTm:=zA aN Td;refine yO (wW k kf) ?_
  have hd0:TB Td 0=List.replicate Td.length (.s (.slice none 0 0)):=by
   unfold TB;apply zYp;intro j;rw[zXd,zY4];by_cases hj:j<Td.length
   ·rw[zX6 hj,zW9 hj];simp
   ·rw[zW8 hj,zX0 wQ];rfl
  have hdn:∀i,(TB Td i).length=Td.length:=λi=>by unfold TB;rw[zXa,zYu]
  rw[hTm];refine zP (Td.length) [50,1,2,3,8,1021] [1,2,3,8,1021] [1,2,3,8,56,57] [58,1,2,3,8,56,57] rfl (λi T U=>⟨(58,iA i)::T,(50,.arr 1 (TB Td i) false)::U⟩) ?_;(conv=>whnf);refine⟨by(rw[hd0];rfl),?_,?_⟩
  ·intro i hi;have hyT:=zM aN Td i hi;have hyd:(TB Td i)[i]? =some (.s (.slice none 0 0)):=cT _ _ _ _ hi;have e1:TB Td (i+1)=(TB Td i).set i (zD yA (gQ (Td.getD i default))):=eE _ _ _ _ hi;obtain⟨v1,v2⟩:=hTv _ (yC Td i hi);have kg:=LC (Td.getD i default) v1 v2;have h2:=hdn i;rw[e1];unfold aN at hyT;clear e1 hd0 hdn hi0 hs0 hs hTv k v2 kf;generalize TB Td i=X at *;generalize gQ (Td.getD i default)=bs at *;generalize Td.getD i default=ti at *;refine zU kg ?_;rfl
  ·(refine WW ?_)
   refine zH [1021] rfl rfl ?_ rfl
   show AV.tup [_,AV.agg [AV.sl false (List.take Td.length (TB Td Td.length)),_]]=_
   rw[zXk (l:=TB Td Td.length) (zZa (hdn _)),zJz];rfl
end
section
open Classical in
noncomputable def pyM (m:Ms):List Int:=if h:YQ m then(dG h.2).choose else []
theorem zJ1 {m:Ms} (h:YQ m):SJ m=HF m.kind (pyM m)/\(BY (pyM m)/\PyF m.kind m.args m.data (pyM m))/\(pyM m).length<=200:=by
 have hs:=(dG h.2).choose_spec;have e1:SJ m=HF m.kind (dG h.2).choose:=by unfold SJ;rw[yCn h]
 have e2:pyM m=(dG h.2).choose:=by unfold pyM;rw[yCn h]
 rw[e1,e2];exact⟨rfl,hs.1,hs.2.1.1⟩
noncomputable def itM (m:Ms):It×Nat:=(⟨0,m.kind,pyM m⟩,(pyM m).length+10)
theorem zOo (k:Int) (p:List Int):(HF k p).length=p.length+10:=by
 simp only[HF,NM,dW,zXl,zXb,zXa,zYu,zYa];omega
theorem zB1:∀(l:List Ms) (n:Nat),(∀m∈l,YQ m)->BY (gQ l)->(gQ l).length<=n->qI n (gQ l)=l.map itM
 | [],n,_,hb,hn=>by
  rw[OG hb hn];rfl
 |m::l,n,h,hb,hn=>by
  have hm:=h m zS;obtain⟨e1,_,e3⟩:=zJ1 hm;have hk:=hm.2.kk;have e:gQ (m::l)=HF m.kind (pyM m)++gQ l:=by rw[<-e1];rfl
  have hfl:=zOo m.kind (pyM m);rw[e]at hb hn⊢;rw[zXb,hfl]at hn;rw[OG hb (by rw[zXb,hfl];exact hn),zOu zB e3];dsimp only;rw[List.drop_left' hfl,zB1 l (n-1) (λx hx=>h x VK) (λx hx=>hb x (zXs.2 (.inr hx))) zB];rfl
theorem zTf (l:List Ms) (hl:l.length<=1002) (h:∀m∈l,YQ m) (hb:BY (gQ l)):zN 34 [zD yA (gQ l)] [] (.tup [zD zY l,bA true]) []:=by
 have hbl:=IM h;have hp:=zB1 l _ h hb (zXc _)
 have ka:=zVz (gQ l) hb zB (λp hp2=>by
  rw[hp]at hp2;obtain⟨m,_,rfl⟩:=zYo.1 hp2
  rfl)
 rw[hp,show zD wI (HJ (l.map itM))= .sl false (l.map λm=>wI (itM m).1) by unfold zD HJ;rw[yBc,yBc];rfl]at ka;have hlm:=zA (λm=>wI (itM m).1) l;clear hp;generalize gQ l=B at *;refine eM call34 λF hF=>?_
 refine zU ka ?_;refine xG 4 1001 4 rfl rfl rfl ?_;refine yB (l) [1001] [] [10,11] [4,12,10,11] rfl (λi pre T U=>⟨(4,.ref 1001 0 (pre.map zY).length)::(12,iA i)::T,(1001,.arr 4 (pre.map zY) true)::U⟩) ?_;(conv=>whnf);refine⟨by rfl,?_,?_⟩
 ·intro i pre x post hx hi;have hy:=yP (λm=>wI (itM m).1) hx hi;have hlt:=yF hx hi;have hpl:pre.length<=l.length:=by rw[hx];simp
  have hxv:=h x (xV hx);obtain⟨_,⟨y1,y2⟩,y3⟩:=zJ1 hxv;have kd:=zTl hxv.2 y2 y1 y3;have kv:=zTn hxv.2;have hpm:=zA zY pre;rw[zXf,show [x].map zY=[zY ⟨x.kind,[],x.args,x.data⟩] by rw[<-hxv.1];rfl];clear hx h;rw[show wI (itM x).1= .agg [iA 0,iA x.kind,zD yA (pyM x)]from rfl]at hy;generalize pyM x=py at *;unfold zY at *;dsimp only at *;refine WLc (wW kd kv) ?_;rfl
 ·(refine WW ?_)
  refine zH [] rfl rfl ?_ rfl
  show AV.tup [AV.sl false (List.take (l.map zY).length (l.map zY)),bA true]=_
  rw[zXe];rfl
end
end Av
end Go.Proofs.YtmamjhmoegjapaaGreat
