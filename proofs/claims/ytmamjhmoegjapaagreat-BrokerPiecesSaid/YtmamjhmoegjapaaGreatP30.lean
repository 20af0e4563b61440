/- Part 30. -/
import Derived.Test.YtmamjhmoegjapaaGreatP29
import Derived.Test.YtmamjhmoegjapaaGreatP27
import Derived.Test.YtmamjhmoegjapaaGreatP12
namespace Go.Proofs.YtmamjhmoegjapaaGreat
namespace Av
open Tryz
set_option linter.unusedSimpArgs false
set_option linter.unusedVariables false
set_option maxRecDepth 4000
set_option maxHeartbeats 8000000
structure JI (j:Jn) (s:Sg) (v:Sv) (now:Int):Prop where
 c:CV j s.c
 n:v.en.length=j.ph.length
 e:∀e∈v.en,-1<=e/\e<=now
 g:0<=v.gr
theorem zFb (g:Cf) (s:Sv) (l:List Cl) (now:Int) (h:0<=s.gr):0<=(kI g s l now).gr:=by
 unfold kI;split
 ·exact zZ8 _
 ·unfold fY;split
  ·exact zZ8 _
  ·exact h
theorem zW6 {j:Jn} (J:JV j) {s:Sg} {v:Sv} {now:Int} (n0:0<=now) (H:JI j s v now) (g:Cf) (l:List Cl) (k:Int):JI j (dvF g j s v l k now).1 (dvF g j s v l k now).2 now:=by
 refine⟨zU8 J H.c g v l k now,?_,?_,?_⟩
 ·unfold dvF;split
  ·exact(UU _ _).trans H.n
  ·split
   ·exact(UU _ _).trans ((VE ..).trans H.n)
   ·dsimp only;unfold dO;split
    ·exact(VE ..).trans H.n
    ·exact(VE ..).trans H.n
 ·have hd:=zF9 g v l now n0 H.e;unfold dvF;split
  ·exact QY _ _ n0 H.e
  ·split
   ·exact QY _ _ n0 hd
   ·dsimp only;unfold dO;split
    ·exact hd
    ·exact hd
 ·have hd:=zFb g v l now H.g;unfold dvF;split
  ·exact zZ8 _
  ·split
   ·exact zZ8 _
   ·dsimp only;unfold dO;split
    ·dsimp only;omega
    ·exact hd
theorem zFc:∀(l pre:List Lg),eG pre l=true->∀g∈l,IN g=true
 | [],_,_,g,hg=>by cases hg
 |x::l,pre,h,g,hg=>by
  unfold eG at h;simp only[zYh]at h
  rcases zZi.1 hg with rfl|hg
  ·exact h.1
  ·exact zFc l _ h.2.2 g hg
theorem zFd {P:Program} {st:St} {T1 T2 T3:Nat} {x y z:Operand} {k:IntKind} {m n l:Int} (hx:yN (zG st.tm) x= .s (.int k m)) (hy:yN (zG st.tm) y= .s (.int k n)) (hz:yN (zG st.tm) z= .s (.int k l)):wR P st (.call ⟨.builtin .min, #[x,y,z], #[T1,T2,T3]⟩) (.s (.int k (min (min m n) l))) [] [] []:=
 yO λoo X tm h w β a ho hg hr HH Ht=>by
  obtain⟨dst,op',type,pos,after,guard⟩:=oo;dsimp only at ho;subst ho;have h1:=vL Ht hg (x:=x) qI hx;have h2:=vL Ht hg (x:=y) qI hy;have h3:=vL Ht hg (x:=z) qI hz;refine⟨.int k (min (min m n) l),?_,.fz _ _ (.s _)⟩;have e1:(if n<m then n else m)=min m n:=by omega
  have e2:(if l<min m n then l else min m n)=min (min m n) l:=by omega
  simp[execOp,resolve,invoke,builtin,Builtin.min_,Builtin.min2,h1,h2,h3,e1,e2]
theorem zFe {P:Program} {st:St} {op:Op} {v:AV} {d:List (Nat×xN)} {r nw:List Nat} (hs:wR P st op v d r nw) (hr:(yD d).all (r.contains ·)=true) (he:(yD d).map (zC st.h)=(yD d).map (zC d)):wR P st op v [] r nw:=
 ⟨λX tm h hg hh hn=>by
  have h1:=hs.run X tm h hg hh hn
  have e:over d h=over [] h:=funext λk=>by
   unfold over
   cases hk:zC d k with
   |none=>rfl
   |some e=>
    have hm:=vJ hk;obtain⟨i,hi⟩:=yBb hm;have e1:=zY0 (·[i]?) he;have e2:zC st.h k=zC d k:=by simpa [hi]using e1
    have e3:=hh k (by have:=zYf.1 hr k hm;simpa using this)
    show some e=h k
    rw[e3,e2,hk]
  rwa [e]at h1⟩
theorem zFf {ag j:Int} {x:Rq} {c:Cl} (h:c∈GZ ag j x) (hx:RqO x) {now:Int} (n0:0<=now) (hs:∀g∈x.legs,g.sc<=now):(0<=c.k/\c.k<=3)/\(0<=c.si/\c.si<=now):=by
 unfold GZ at h;split at h
 ·cases h
 ·split at h
  ·cases h
  ·rename_i h1;rw[zYz]at h;subst h;dsimp only;refine⟨⟨hx.c0,hx.c1⟩,?_⟩;by_cases hi:(UP (λr:Lg=>r.jn==j) x.legs).toNat<x.legs.length
   ·have hm:=zZ x.legs _ hi;have hl:=hx.lg;unfold vgF at hl;rw[zYh]at hl;have:=hs _ hm;have hv:=zFc _ _ hl.2 _ hm;generalize x.legs.getD (UP (λr:Lg=>r.jn==j) x.legs).toNat default=g at *;unfold IN at hv;rw[zX9]at hv;omega
   ·rw[zX5,zYt zB]
    show(0:Int)<=0/\(0:Int)<=now
    omega
theorem zFg {c:Cf} {j:Int} {ds:List xQ} (hI:∀d∈ds,qC c d) {now:Int} (n0:0<=now) (hs:∀d∈ds,NP now d.rq):∀x∈eX j ds,(0<=x.k/\x.k<=3)/\(0<=x.si/\x.si<=now):=λx hx=>by
 unfold eX at hx;obtain⟨y,hy,hx⟩:=yBm.1 hx;obtain⟨d,hd,rfl⟩:=zZj.1 hy;unfold cP at hx;obtain⟨y,hy,hx⟩:=yBm.1 hx;obtain⟨r,hr,rfl⟩:=zZj.1 hy;exact zFf hx ((hI d hd).v.ok r hr) n0 (hs d hd r hr)
theorem MT (j:Int):∀l:List xQ,(∀d∈l,d.rq.length<=4)->(eX j l).length<=4*l.length
 | [],_=>zX6 _
 |d::l,h=>by
  have h1:=aQ d.rg.num j d.rq;have h2:=MT j l (λx hx=>h x ST);have h3:=h d zS;have e:eX j (d::l)=cP d.rg.num j d.rq++eX j l:=rfl;rw[e,zX3,zYd];omega
def aJ (c:Cf) (sg:List Sg) (sv:List Sv) (st:List Int) (ds:List xQ) (now:Int) (k:Nat):Sg×Sv:=dvF c (c.js.getD k default) (sg.getD k default) (sv.getD k default) (eX (k:Int) ds) (st.getD k default) now
def NK (D:Nat->Sg×Sv) (l:List Sg) (i:Nat):List Sg:=dR (λk _=>(D k).1) l i
def NL (D:Nat->Sg×Sv) (l:List Sv) (i:Nat):List Sv:=dR (λk _=>(D k).2) l i
def KL (l:List Int) (i:Nat):List Int:=dR (λ_ _=> -1) l i
def stW (js:List Jn) (D:Nat->Sg×Sv) (n i:Nat):List AV:=(List.range n).map λk=>if k<i then vM (RO (js.getD k default) (D k).1 (D k).2)else .agg [bA false,bA false,.s (.slice none 0 0),.s (.slice none 0 0)]
def stH (c:Cf) (now:Int) (ds:List xQ) (v:AV) (sg:List Sg) (sv:List Sv) (st:List Int):List (Nat×xN):=
 [(2,.box [zD wH c.js,zD vC c.ags,iA c.per,iA c.cap,iA c.hold,iA c.lock,bA false,iA now,zD zK ds,.ref 1012 0 (sg.map wV).length,.ref 1013 0 (sv.map wT).length,.ref 1014 0 (st.map iA).length,v]),(1012,.arr 5 (sg.map wV) false),(1013,.arr 3 (sv.map wT) false),(1014,.arr 1 (st.map iA) false)]
theorem zFh (c:Cf) (hv:GY c) (now:Int) (n0:0<=now) (n1:now<=1000000000) (ds:List xQ) (hd4:ds.length<=4) (hI:∀d∈ds,qC c d) (hs:∀d∈ds,NP now d.rq) (sg:List Sg) (sv:List Sv) (st:List Int) (vw:List Vw)
  (hg:sg.length=c.js.length) (hsv:sv.length=c.js.length) (hst:st.length=c.js.length) (hj:∀k,k<c.js.length->JI (c.js.getD k default) (sg.getD k default) (sv.getD k default) now):
  zN 64 [.ptr 2 0 0] (stH c now ds (zD vM vw) sg sv st) (.tup [])
   (stH c now ds (.ref 1015 0 c.js.length) (NK (aJ c sg sv st ds now) sg c.js.length) (NL (aJ c sg sv st ds now) sv c.js.length) (KL st c.js.length)++[(1015,.arr 4 (stW c.js (aJ c sg sv st ds now) c.js.length c.js.length) false)]):=by
 have hjl:=zA wH c.js;have hgl:=zA wV sg;have hvl:=zA wT sv;have htl:=zA iA st;have hj4:=hv.j;unfold stH;refine eM call64 λF hF=>?_
 (repeat' (first|refine qB ?_|refine xO (λhc=>?_) (λhc=>?_)|refine wB (λhc=>?_)|(refine zE ?_;first|(refine zE ?_;refine xI (zFd rfl rfl rfl) rfl ?_)|(refine gU ?_;refine cK 1015 tok rfl rfl rfl rfl rfl rfl rfl rfl rfl rfl rfl rfl rfl zB zB rfl rfl rfl ?_))|fail))
 rw[hjl,hgl,hvl,hg,hsv,yDw,yDw]
 (repeat' (first|refine qB ?_|refine xO (λhc=>?_) (λhc=>?_)|refine wB (λhc=>?_)|(refine zE ?_;first|(refine gU ?_;refine cK 1015 tok rfl rfl rfl rfl rfl rfl rfl rfl rfl rfl rfl rfl rfl zB zB rfl rfl rfl ?_))|fail))
 have hw0:∀D,stW c.js D c.js.length 0=List.replicate c.js.length (.agg [bA false,bA false,.s (.slice none 0 0),.s (.slice none 0 0)]):=λD=>by
  unfold stW;apply zZf;intro j;rw[zX4,zZs];by_cases hj:j<c.js.length
  ·rw[zYx hj,zX1 hj];simp
  ·rw[zX0 hj,zYt wQ];rfl
 have hC:=MT;have hG0:∀D,NK D sg 0=sg:=λD=>kN _ _
 have hV0:∀D,NL D sv 0=sv:=λD=>kN _ _
 have hK0:KL st 0=st:=kN _ _;have hgn:∀D i,((NK D sg i).map wV).length=c.js.length:=λD i=>by unfold NK;rw[zX2,wL,hg]
 have hvn:∀D i,((NL D sv i).map wT).length=c.js.length:=λD i=>by unfold NL;rw[zX2,wL,hsv]
 have hkn:∀i,((KL st i).map iA).length=c.js.length:=λi=>by unfold KL;rw[zX2,wL,hst]
 have hwn:∀D i,(stW c.js D c.js.length i).length=c.js.length:=λD i=>by unfold stW;rw[zX2,zZk]
 rw[htl,hst,hgn,hvn,hkn];refine zP (c.js.length) [1012,1013,1014,1015,2] [2] [0,28] [29,0,28] rfl (λi T U=>⟨(29,iA i)::T,(1012,.arr 5 ((NK (aJ c sg sv st ds now) sg i).map wV) false)::(1013,.arr 3 ((NL (aJ c sg sv st ds now) sv i).map wT) false)::(1014,.arr 1 ((KL st i).map iA) false)::(1015,.arr 4 (stW c.js (aJ c sg sv st ds now) c.js.length i) false)::U⟩) ?_;(conv=>whnf);refine⟨by(rw[hG0,hV0,hK0,hw0];rfl),?_,?_⟩
 ·intro i hi;have hyj:=zM wH c.js i hi;have hyg:((NK (aJ c sg sv st ds now) sg i).map wV)[i]? =some (wV (sg.getD i default)):=by rw[zX4];unfold NK;rw[vO,zX1 zB,zX0 (yBk i)];rfl
  have hyv:((NL (aJ c sg sv st ds now) sv i).map wT)[i]? =some (wT (sv.getD i default)):=by rw[zX4];unfold NL;rw[vO,zX1 zB,zX0 (yBk i)];rfl
  have hyk:((KL st i).map iA)[i]? =some (iA (st.getD i default)):=by rw[zX4];unfold KL;rw[vO,zX1 zB,zX0 (yBk i)];rfl
  have hyw:(stW c.js (aJ c sg sv st ds now) c.js.length i)[i]? =some (.agg [bA false,bA false,.s (.slice none 0 0),.s (.slice none 0 0)]):=cO _ _ _ _ hi;have eg:(NK (aJ c sg sv st ds now) sg (i+1)).map wV=((NK (aJ c sg sv st ds now) sg i).map wV).set i (wV (aJ c sg sv st ds now i).1):=by unfold NK;rw[uO _ _ _ _ zB]
  have ev:(NL (aJ c sg sv st ds now) sv (i+1)).map wT=((NL (aJ c sg sv st ds now) sv i).map wT).set i (wT (aJ c sg sv st ds now i).2):=by unfold NL;rw[uO _ _ _ _ zB]
  have ek:(KL st (i+1)).map iA=((KL st i).map iA).set i (iA (-1)):=by unfold KL;rw[uO _ _ _ _ zB]
  have ew:stW c.js (aJ c sg sv st ds now) c.js.length (i+1)=(stW c.js (aJ c sg sv st ds now) c.js.length i).set i (vM (RO (c.js.getD i default) (aJ c sg sv st ds now i).1 (aJ c sg sv st ds now i).2)):=eO _ _ _ _ hi;have J:=hv.jv _ (zZ c.js i hi);have H:=hj i hi;have cl:(eX (i:Int) ds).length<=4*ds.length:=hC i ds λd hd=>(hI d hd).v.n4
  have cm:=zFg (j:=(i:Int)) hI n0 hs;have hp:=hv.p;have hcp:=hv.cp;have hJn:=J.n;have hHn:=H.n;have HD:DcB c (sv.getD i default) (eX (i:Int) ds) now:=⟨hp.1,zB,zB,n0,n1,H.e,λx hx=>(cm x hx).1,λx hx=>(cm x hx).2,zB,zB⟩
  have kd:zN 112 [wP c,wH (c.js.getD i default),wV (sg.getD i default),wT (sv.getD i default),zD dT (eX (i:Int) ds),iA (st.getD i default),iA now] [] (.tup [wV (aJ c sg sv st ds now i).1,wT (aJ c sg sv st ds now i).2]) []:=
   zLx c _ J _ H.c _ _ _ now HD (by have:=zFb c (sv.getD i default) (eX (i:Int) ds) now H.g;omega)
  have ko:=zGd (c.js.getD i default) J (aJ c sg sv st ds now i).1 (zU8 J H.c _ _ _ _ _) (aJ c sg sv st ds now i).2;have kc:=zDg c false now ds i zB (λd hd=>(hI d hd).bd) ((NK (aJ c sg sv st ds now) sg i).map wV) ((NL (aJ c sg sv st ds now) sv i).map wT) (((KL st i).map iA).set i (iA (-1))) (stW c.js (aJ c sg sv st ds now) c.js.length i) c.js.length c.js.length c.js.length c.js.length;have hgl':=hgn (aJ c sg sv st ds now) i;have hvl':=hvn (aJ c sg sv st ds now) i;have hkl':=hkn i;have hwl':=hwn (aJ c sg sv st ds now) i;rw[eg,ev,ek,ew];clear eg ev ek ew hG0 hV0 hK0 hw0 HD cm hC hgn hvn hkn hwn hj H J;generalize (NK (aJ c sg sv st ds now) sg i).map wV=X at *;generalize (NL (aJ c sg sv st ds now) sv i).map wT=Y at *;generalize (KL st i).map iA=Z at *;generalize stW c.js (aJ c sg sv st ds now) c.js.length i=W at *;generalize aJ c sg sv st ds now i=p at *;generalize RO (c.js.getD i default) p.1 p.2=w at *;generalize eX (i:Int) ds=l at *;generalize sg.getD i default=s at *;generalize sv.getD i default=v at *;generalize st.getD i default=k at *;generalize c.js.getD i default=j at *;have hx1:(X.set i (wV p.1))[i]? =some (wV p.1):=zZo zB;have hx2:(Y.set i (wT p.2))[i]? =some (wT p.2):=zZo zB
  (have zc1:=kd;have zc2:=ko;(repeat' (first|refine qB ?_|refine xO (λhc=>?_) (λhc=>?_)|refine wB (λhc=>?_)|(refine zE ?_;first|(refine uQ 113 ?_;refine xI (zFe (zH kc rfl rfl rfl rfl rfl) rfl rfl) rfl ?_))|fail))<;>clear zc1 zc2)
  rfl
 ·(refine WW ?_)
  exact jA [2,1012,1013,1014,1015] rfl rfl rfl rfl
structure GO (y:Cy):Prop where
 v:GY y.c
 rf:y.rf=false
 n0:0<=y.now
 dl:y.ds.length=y.c.ags.length
 di:∀d∈y.ds,qC y.c d
 dg:∀a,a<y.ds.length->(y.ds.getD a default).rg.ag=y.c.ags.getD a default
 sc:∀d∈y.ds,NP y.now d.rq
 gl:y.sg.length=y.c.js.length
 sl:y.sv.length=y.c.js.length
 tl:y.st.length=y.c.js.length
 wl:y.vw.length=y.c.js.length
 wb:∀w∈y.vw,VwB w
 j:∀k,k<y.c.js.length->JI (y.c.js.getD k default) (y.sg.getD k default) (y.sv.getD k default) y.now
theorem QP {α:Type} [Inhabited α] {l:List α} {x:α} (h:x∈l):∃i,i<l.length/\l.getD i default=x:=by
 obtain⟨i,hi,e⟩:=yCi.1 h;exact⟨i,hi,by rw[zX5,zYi hi];exact e⟩
theorem GO.b {y:Cy} (h:GO y):CyB y:=by
 have ha:=h.v.a;have hj:=h.v.j;have h1:=h.dl;have h2:=h.gl;have h3:=h.sl;have h4:=h.tl;have h5:=h.wl;refine⟨zB,λd hd=>(h.di d hd).bd,zB,λs hs=>?_,zB,λs hs=>?_,zB,zB,λw hw=>?_⟩
 ·obtain⟨i,hi,rfl⟩:=QP hs;have J:=h.v.jv _ (zZ y.c.js i zB);have C:=(h.j i zB).c;have h6:=J.n;have h7:=C.n;have h8:=C.m;omega
 ·obtain⟨i,hi,rfl⟩:=QP hs;have J:=h.v.jv _ (zZ y.c.js i zB);have h6:=J.n;have h7:=(h.j i zB).n;omega
 ·have:=h.wb w hw;have h6:=this.n;have h7:=this.m;omega
def UL (c:Cf) (sg:List Sg) (ks:List Int):List Sg:=ks.foldl (λs x=>s.set x.toNat (CY (c.js.getD x.toNat default) (s.getD x.toNat default))) sg
theorem zFi (c:Cf) (sg:List Sg) (ks:List Int) (x:Int):UL c sg (ks++[x])=(UL c sg ks).set x.toNat (CY (c.js.getD x.toNat default) ((UL c sg ks).getD x.toNat default)):=by
 unfold UL;rw[List.foldl_append];rfl
theorem gI {α:Type} [Inhabited α] (l:List α) (i j:Nat) (x:α) (hj:j<l.length):(l.set i x).getD j default=if i=j then x else l.getD j default:=by
 rw[zX5,zZ7,zX5];by_cases h:i=j
 ·subst h;rw[zX1 rfl,zX1 hj,zX1 rfl];rfl
 ·rw[zX0 h,zX0 h]
theorem GP {c:Cf} (hv:GY c) {sv:List Sv} {now:Int}:∀(ks:List Int) (sg:List Sg),sg.length=c.js.length->(∀k,k<c.js.length->JI (c.js.getD k default) (sg.getD k default) (sv.getD k default) now)->(UL c sg ks).length=c.js.length/\∀k,k<c.js.length->JI (c.js.getD k default) ((UL c sg ks).getD k default) (sv.getD k default) now
 | [],sg,hl,h=>⟨hl,h⟩
 |x::ks,sg,hl,h=>by
  have e:UL c sg (x::ks)=UL c (sg.set x.toNat (CY (c.js.getD x.toNat default) (sg.getD x.toNat default))) ks:=rfl;rw[e];refine GP hv ks _ (by rw[zZm];exact hl) λk hk=>?_
  rw[gI _ _ _ _ zB];split
  ·rename_i hx;rw[hx];have H:=h k hk;exact⟨zXb (hv.jv _ (zZ c.js k hk)) H.c,H.n,H.e,H.g⟩
  ·exact h k hk
theorem zBc (D:Nat->Sg×Sv) (l:List Sg) (n k:Nat) (h1:k<n) (h2:k<l.length):(NK D l n).getD k default=(D k).1:=by
 unfold NK;rw[zX5,vO,zX1 h2,zX1 h1];rfl
theorem zBd (D:Nat->Sg×Sv) (l:List Sv) (n k:Nat) (h1:k<n) (h2:k<l.length):(NL D l n).getD k default=(D k).2:=by
 unfold NL;rw[zX5,vO,zX1 h2,zX1 h1];rfl
def stU (js:List Jn) (D:Nat->Sg×Sv) (n:Nat):List Vw:=(List.range n).map λk=>RO (js.getD k default) (D k).1 (D k).2
theorem zLl (js:List Jn) (D:Nat->Sg×Sv) (n:Nat):stW js D n n=(stU js D n).map vM:=by
 unfold stW stU;rw[eP,yCp];rfl
def NW (y:Cy) (R:Nat->DR):Nat->Sg×Sv:=aJ y.c (UL y.c y.sg (WU R y.ds.length)) y.sv y.st (SU (y.now+1) y.ds R y.ds.length) (y.now+1)
def fI (y:Cy) (R:Nat->DR):Cy:=
 ⟨y.c,false,y.now+1,SU (y.now+1) y.ds R y.ds.length,NK (NW y R) (UL y.c y.sg (WU R y.ds.length)) y.c.js.length,NL (NW y R) y.sv y.c.js.length,KL y.st y.c.js.length,stU y.c.js (NW y R) y.c.js.length⟩
def TkR (y:Cy) (ins:List In) (R:Nat->DR):Prop:=∀a,a<y.ds.length->DtP y.c (y.now+1) (MA (y.ds.getD a default) (y.now+1)) (QT y.c ins a) (R a)/\zN 110 [wP y.c,zK (MA (y.ds.getD a default) (y.now+1)),zD kT (QT y.c ins a),iA (y.now+1)] [] (drT (R a)) []
theorem bF {now:Int} {ds:List xQ} {R:Nat->DR} {a:Nat} (ha:a<ds.length):(SU now ds R ds.length).getD a default=(R a).d:=by
 unfold SU;rw[eP,zX5,zX4,zYx ha];rfl
theorem ZS (now:Int) (ds:List xQ) (R:Nat->DR):(SU now ds R ds.length).length=ds.length:=by simp[SU]
theorem RL {now:Int} {ds:List xQ} {R:Nat->DR} {d:xQ} (h:d∈SU now ds R ds.length):∃a,a<ds.length/\d=(R a).d:=by
 obtain⟨i,hi,rfl⟩:=QP h;rw[ZS]at hi;exact⟨i,hi,bF hi⟩
theorem zFj (l:List Rq) (now:Int):PI l (zJw l now):=PI.filter _ _
theorem zU0 {y:Cy} (h:GO y) (hn:y.now<1000000000) {ins:List In} (hil:(ins.length:Int)=qX y.c.ags y.c.ags.length) (hin:∀i∈ins,InS i):∃R,TkR y ins R/\∀a,(R a).en.length<=2000/\(R a).ks.length<=2000:=by
 have hd:∀a,∃r:DR,(r.en.length<=2000/\r.ks.length<=2000)/\(a<y.ds.length->DtP y.c (y.now+1) (MA (y.ds.getD a default) (y.now+1)) (QT y.c ins a) r/\zN 110 [wP y.c,zK (MA (y.ds.getD a default) (y.now+1)),zD kT (QT y.c ins a),iA (y.now+1)] [] (drT r) []):=λa=>by
  by_cases ha:a<y.ds.length
  ·have hI:=h.di _ (zZ y.ds a ha);obtain⟨b1,b2,_⟩:=zV7 hI (y.now+1);have hau:=hI.au;rw[h.dg a ha]at hau;have hs:=(h.v.av _ (zZ y.c.ags a (by have:=h.dl;omega))).e;have n0:=h.n0
   obtain⟨r,hr⟩:=zF2 y.c _ b1 (QT y.c ins a) (by unfold QT GE;rw[zX2,zZk];show _=(y.ds.getD a default).au.length;omega) (λi hi=>by
    unfold QT GE at hi;obtain⟨k,_,rfl⟩:=zZj.1 hi;by_cases hk:(qX y.c.ags a).toNat+k<ins.length
    ·exact hin _ (zZ ins _ hk)
    ·rw[zX5,zYt zB]
     exact⟨zYe _,λx hx=>by cases hx⟩) (y.now+1) zB zB
   exact⟨r,⟨hr.1.el,hr.1.kl⟩,λ_=>hr⟩
  ·exact⟨⟨default,[],[],[]⟩,⟨zYe _,zYe _⟩,λh=>absurd h ha⟩
 exact⟨λa=>(hd a).choose,λa ha=>(hd a).choose_spec.2 ha,λa=>(hd a).choose_spec.1⟩
theorem zP5 {y:Cy} (h:GO y) {ins:List In} {R:Nat->DR} (hR:TkR y ins R):GO (fI y R):=by
 have n0:=h.n0;have hg:=GP h.v (sv:=y.sv) (now:=y.now) (WU R y.ds.length) y.sg h.gl h.j
 have hD:∀k,k<y.c.js.length->JI (y.c.js.getD k default) (NW y R k).1 (NW y R k).2 (y.now+1):=λk hk=>by
  have J:=h.v.jv _ (zZ y.c.js k hk);have H:=hg.2 k hk;exact zW6 J zB ⟨H.c,H.n,λe he=>by have:=H.e e he;omega,H.g⟩ _ _ _
 have hsl:=h.sl;refine⟨h.v,rfl,by show 0<=y.now+1;omega,(ZS ..).trans h.dl,λd hd=>?_,λa ha=>?_,λd hd=>?_,?_,?_,?_,?_,λw hw=>?_,λk hk=>?_⟩
 ·obtain⟨a,ha,rfl⟩:=RL hd;exact(hR a ha).1.i
 ·have ha':a<y.ds.length:=by rw[<-ZS (y.now+1) y.ds R];exact ha
  show((SU (y.now+1) y.ds R y.ds.length).getD a default).rg.ag=_
  rw[bF ha',(hR a ha').1.ag];exact h.dg a ha'
 ·obtain⟨a,ha,rfl⟩:=RL hd;refine(hR a ha).1.sc ?_;exact NP.of zB ((h.sc _ (zZ y.ds a ha)).mono zB) (zFj _ _)
 ·show(NK _ _ _).length=_
  unfold NK;rw[wL];exact hg.1
 ·show(NL _ _ _).length=_
  unfold NL;rw[wL];exact h.sl
 ·show(KL _ _).length=_
  unfold KL;rw[wL];exact h.tl
 ·show(stU _ _ _).length=_
  simp[stU,fI]
 ·unfold fI stU at hw;obtain⟨k,hk,rfl⟩:=zZj.1 hw;exact zP8 _ (h.v.jv _ (zZ y.c.js k (zYr.1 hk))) _ _
 ·show JI _ ((NK (NW y R) (UL y.c y.sg (WU R y.ds.length)) y.c.js.length).getD k default) ((NL (NW y R) y.sv y.c.js.length).getD k default) _
  have hk':k<y.c.js.length:=hk;rw[zBc _ _ _ _ hk' (by rw[hg.1];exact hk'),zBd _ _ _ _ hk' zB];exact hD k hk
def CU (y:Cy) (ins:List In) (R:Nat->DR) (n a k:Nat):List Ms:=if(ins.getD ((qX y.c.ags a).toNat+k) default).opn=true then tlF (y.ds.getD a default) y.vw y.now k (R a).R (NN R n)else []
def CW (T:Nat->Nat->List Ms) (a k:Nat):List (List Ms):=(List.range k).map (T a)
def GB (c:Cf) (T:Nat->Nat->List Ms) (n:Nat):List (List Ms):=((List.range n).map λa=>CW T a (c.ags.getD a default).ses.toNat).flatten
def tdA (T:List (List Ms)) (f:Ms):AV:= .agg [zD bD T,zD yE [f]]
theorem zFk (T:Nat->Nat->List Ms) (a k:Nat):CW T a (k+1)=CW T a k++[T a k]:=by simp[CW,yAh]
theorem QR (c:Cf) (T:Nat->Nat->List Ms) (n:Nat):GB c T (n+1)=GB c T n++CW T n (c.ags.getD n default).ses.toNat:=by simp[GB,yAh]
theorem VC {c:Cf} (hw:MX c.ags) (T:Nat->Nat->List Ms):∀n,n<=c.ags.length->((GB c T n).length:Int)=qX c.ags n
 |0,_=>rfl
 |n+1,hn=>by
  have ih:=VC hw T n zB;have:=hw.at (i:=n) zB;rw[QR,zX3]
  show _=qX c.ags n+(c.ags.getD n default).ses
  have:(CW T n (c.ags.getD n default).ses.toNat).length=(c.ags.getD n default).ses.toNat:=by simp[CW]
  omega
theorem ZT {c:Cf} (hw:MX c.ags) (T:Nat->Nat->List Ms):∀n,n<=c.ags.length->∀s,s<(GB c T n).length->∃a k:Nat,a<n/\(k:Int)<(c.ags.getD a default).ses/\s=(qX c.ags a).toNat+k/\(GB c T n).getD s []=T a k
 |0,_,s,hs=>by cases hs
 | n+1,hn,s,hs=>by
  have hl:=VC hw T n zB;rw[QR]at hs⊢;by_cases h:s<(GB c T n).length
  ·obtain⟨a,k,h1,h2,h3,h4⟩:=ZT hw T n zB s h;refine⟨a,k,zB,h2,h3,?_⟩;rw[zX5,zYw h,<-zX5];exact h4
  ·rw[zX3]at hs;have hp:(CW T n (c.ags.getD n default).ses.toNat).length=(c.ags.getD n default).ses.toNat:=by simp[CW]
   refine⟨n,s-(GB c T n).length,zB,zB,zB,?_⟩;rw[zX5,zYs zB];unfold CW;rw[zX4,zYx zB];rfl
theorem xP.frz {P:Program} {f:Nat} {args:List AV} {r:AV} {h1:List (Nat×xN)} {r':AV} {h1':List (Nat×xN)} (h:xP P f args [] r h1) (K:List Nat) (hr:WN (wN K (zC h1) r)=r') (hh:wX K (zC h1)=h1') (hnd:vX h1'=true):xP P f args [] r' h1':=
 ⟨h.able,λk=>qG hnd,λX w β cargs hc H ha=>(h.sim X w β cargs hc H ha).mono λe w' ⟨c,β',he,G,hv⟩=>by
  obtain⟨H3,hv3⟩:=G.hok.restr K;refine⟨c,λk=>if k∈K then β' k else [],he,⟨G.size,G.keep,λk b n hm=>?_,G.bs,λk e he=>by simp[zC]at he,by rw[<-hh];exact H3,G.os,G.tape,G.output⟩,?_⟩
  ·split at hm
   ·exact G.own k b n hm
   ·simp at hm
  ·rw[<-hh,<-hr]
   exact(hv3 _ _ hv).wk⟩
theorem zLm {R:Nat->DR} {n:Nat} {x:Int} (h:x∈WU R n):∃a,a<n/\x∈(R a).ks:=by
 unfold WU at h;obtain⟨l,hl,hx⟩:=yBm.1 h;obtain⟨a,ha,rfl⟩:=zZj.1 hl;exact⟨a,zYr.1 ha,hx⟩
theorem zBe {R:Nat->DR} {n:Nat} {x:En} (h:x∈NN R n):∃a,a<n/\x∈(R a).en:=by
 unfold NN at h;obtain⟨l,hl,hx⟩:=yBm.1 h;obtain⟨a,ha,rfl⟩:=zZj.1 hl;exact⟨a,zYr.1 ha,hx⟩
def tdO (T:List (List Ms)) (f:Ms):AV:= .agg [.ref 1051 0 (T.map bD).length,zD yE [f]]
def tdH (T:List (List Ms)):List (Nat×xN):=[(1051,.arr 1 (T.map bD) true)]
theorem zLn (y:Cy) (h:GO y) (hn:y.now<1000000000) (ins:List In) (hil:(ins.length:Int)=qX y.c.ags y.c.ags.length) (R:Nat->DR) (hR:TkR y ins R) (hen:∀i,(R i).en.length<=2000) (hks:∀i,(R i).ks.length<=2000):
  zN 18 [uF y,zD kT ins] [] (.tup [uF (fI y R),tdO (GB y.c (CU (fI y R) ins R y.ds.length) y.c.ags.length) (RN (y.now+1) (fI y R).vw)]) (tdH (GB y.c (CU (fI y R) ins R y.ds.length) y.c.ags.length)):=by
 have hb:=h.b;have n0:=h.n0;have hw:=h.v.ag;have k1:=QZ y hb;have hdl:=h.dl;have k2:=zDb y.c hw (y.now+1) zB zB y.ds h.dl (λi hi=>h.di _ (zZ y.ds i hi)) ins hil R hen hks (λa ha=>(hR a ha).2) (y.sg.map wV) (y.sv.map wT) (y.st.map iA) (y.sg.map wV).length (y.sv.map wT).length (y.st.map iA).length y.vw;have hi9:=zA kT ins;have hmin:min y.now 1073741823+1=y.now+1:=by omega
 have hrf:=h.rf;have eC:uF y= .agg [zD wH y.c.js,zD vC y.c.ags,iA y.c.per,iA y.c.cap,iA y.c.hold,iA y.c.lock,bA false,iA y.now,zD zK y.ds,zD wV y.sg,zD wT y.sv,zD iA y.st,zD vM y.vw]:=by rw[<-hrf];rfl
 unfold zGa zGb aR at k1;rw[eC,hrf]at k1;unfold aR at k2;rw[eC];refine eM call18 λF hF=>?_
 refine zU k1 ?_;rw[hmin];refine zU k2 ?_;refine uC [2,3,4,5,6,7,1012,1013,1014] [2,3,4,5,6,7,34,35,36] rfl ?_
 (conv=>whnf)
 have hds:(y.ds.map zK).length=((SU (y.now+1) y.ds R y.ds.length).map zK).length:=by rw[zX2,zX2,ZS]
 have hgl:=zA wV y.sg;have hvl:=zA wT y.sv;have htl:=zA iA y.st;have hgl2:=h.gl;have hvl2:=h.sl;have htl2:=h.tl;simp only[zY2];rw[hds,zX7,hgl,hvl,htl,hgl2,hvl2,htl2];clear k1 k2
 have hkx:∀x∈WU R y.ds.length,0<=x/\x<(y.c.js.length:Int):=λx hx=>by
  obtain⟨a,ha,hx⟩:=zLm hx;exact(hR a ha).1.ks x hx
 have hkl:=KP hks y.ds.length;have hags:=h.v.a;have hks9:(WU R y.ds.length).length<=10000:=by omega
 have hjl:=zA wH y.c.js;have hkm:=zA iA (WU R y.ds.length);have eY:fI y R=⟨y.c,false,y.now+1,SU (y.now+1) y.ds R y.ds.length,NK (NW y R) (UL y.c y.sg (WU R y.ds.length)) y.c.js.length,NL (NW y R) y.sv y.c.js.length,KL y.st y.c.js.length,stU y.c.js (NW y R) y.c.js.length⟩:=rfl;refine zY ((WU R y.ds.length)) [1012,2,3,4,5,6,7,1013,1014] [2,3,4,5,6,7,1013,1014] [2,3,4,5,6,7,34,35,86] [36,2,3,4,5,6,7,34,35,86] rfl (λi pre T U=>⟨(36,iA i)::T,(1012,.arr 5 ((UL y.c y.sg pre).map wV) false)::U⟩) ?_;(conv=>whnf);refine⟨by rfl,?_,?_⟩
 ·intro i pre x post hx hi;have hy:=yI iA hx hi;have hlt:=yB hx hi;have hxb:=hkx x (xX hx);obtain⟨g1,g2⟩:=GP h.v (sv:=y.sv) (now:=y.now) pre y.sg h.gl h.j;have J:=h.v.jv _ (zZ y.c.js x.toNat zB);have C:=(g2 x.toNat zB).c;have hJ:=J.n;have hC:=C.n;have hM:=C.m;have kr:=zGm (y.c.js.getD x.toNat default) J ((UL y.c y.sg pre).getD x.toNat default) zB zB;have hyj:=yM wH y.c.js x hxb.1 hxb.2;have hyg:=yM wV (UL y.c y.sg pre) x hxb.1 zB;have hgl3:=zA wV (UL y.c y.sg pre);rw[zFi,zZ9];clear hx hkx eY hR J C g2;generalize (UL y.c y.sg pre).getD x.toNat default=s at *;generalize y.c.js.getD x.toNat default=j at *;generalize UL y.c y.sg pre=X at *;generalize X.map wV=Y at *;refine zU kr ?_;rfl
 ·obtain⟨g1,g2⟩:=GP h.v (sv:=y.sv) (now:=y.now) (WU R y.ds.length) y.sg h.gl h.j
  have kst:=zFh y.c h.v (y.now+1) zB zB (SU (y.now+1) y.ds R y.ds.length) (by rw[ZS];omega) (λd hd=>by
    obtain⟨a,ha,rfl⟩:=RL hd
    exact(hR a ha).1.i) (λd hd=>by
    obtain⟨a,ha,rfl⟩:=RL hd;refine(hR a ha).1.sc ?_
    exact NP.of zB ((h.sc _ (zZ y.ds a ha)).mono zB) (zFj _ _)) (UL y.c y.sg (WU R y.ds.length)) y.sv y.st y.vw g1 h.sl h.tl (λk hk=>by
    have H:=g2 k hk
    exact⟨H.c,H.n,λe he=>by have:=H.e e he;omega,H.g⟩)
  have l1:((UL y.c y.sg (WU R y.ds.length)).map wV).length=y.c.js.length:=by rw[zX2];exact g1
  have l2:(y.sv.map wT).length=y.c.js.length:=by rw[zX2];exact h.sl
  have l3:(y.st.map iA).length=y.c.js.length:=by rw[zX2];exact h.tl
  have l4:((NK (NW y R) (UL y.c y.sg (WU R y.ds.length)) y.c.js.length).map wV).length=y.c.js.length:=by unfold NK;rw[zX2,wL];exact g1
  have l5:((NL (NW y R) y.sv y.c.js.length).map wT).length=y.c.js.length:=by unfold NL;rw[zX2,wL];exact h.sl
  have l6:((KL y.st y.c.js.length).map iA).length=y.c.js.length:=by unfold KL;rw[zX2,wL];exact h.tl
  have l7:((stU y.c.js (NW y R) y.c.js.length).map vM).length=y.c.js.length:=by simp[stU]
  have hal:=zA vC y.c.ags;unfold stH at kst;rw[show aJ y.c (UL y.c y.sg (WU R y.ds.length)) y.sv y.st (SU (y.now+1) y.ds R y.ds.length) (y.now+1)=NW y R from rfl,zLl,l1,l2,l3,l4,l5,l6]at kst;have eT:uF (fI y R)= .agg [zD wH y.c.js,zD vC y.c.ags,iA y.c.per,iA y.c.cap,iA y.c.hold,iA y.c.lock,bA false,iA (y.now+1),zD zK (fI y R).ds,zD wV (fI y R).sg,zD wT (fI y R).sv,zD iA (fI y R).st,zD vM (fI y R).vw]:=rfl;have d1:SU (y.now+1) y.ds R y.ds.length=(fI y R).ds:=rfl;have d2:NK (NW y R) (UL y.c y.sg (WU R y.ds.length)) y.c.js.length=(fI y R).sg:=rfl;have d3:NL (NW y R) y.sv y.c.js.length=(fI y R).sv:=rfl;have d4:KL y.st y.c.js.length=(fI y R).st:=rfl;have d5:stU y.c.js (NW y R) y.c.js.length=(fI y R).vw:=rfl;rw[d2]at kst l4;rw[d3]at kst l5;rw[d4]at kst l6;rw[d5]at kst l7;rw[d1]at kst⊢;refine zU kst ?_;refine uC [2,3,4,5,6,7,11] [2,3,4,5,6,7,11,78,79] rfl ?_
  (conv=>whnf)
  simp only[zY2];rw[zYb (l:=(fI y R).sg.map wV) (zZ1 l4),zYb (l:=(fI y R).sv.map wT) (zZ1 l5),zYb (l:=(fI y R).st.map iA) (zZ1 l6),zYb (l:=(fI y R).vw.map vM) (zZ1 l7),hal];have hZ:=zP5 h hR;have zc:(fI y R).c=y.c:=rfl;have zn:(fI y R).now=y.now+1:=rfl;have zd:(fI y R).ds.length=y.ds.length:=ZS ..;have zR:∀a,a<y.ds.length->(fI y R).ds.getD a default=(R a).d:=λa ha=>bF ha
  have hzl:=zA zK (fI y R).ds;have eA:∀T f,tdO T f= .agg [.ref 1051 0 (T.map bD).length,zD yE [f]]:=λ_ _=>rfl
  have eH:∀T,tdH T=[(1051,.arr 1 (T.map bD) true)]:=λ_=>rfl
  rw[eT,eA,eH];clear d1 d2 d3 d4 d5 kst l1 l2 l3 l4 l5 l6 l7 g1 g2 hkx eY hds;refine uK 11 0 1051 1 rfl rfl rfl rfl rfl ?_
  have hTf:∀a k,CU (fI y R) ins R y.ds.length a k=if(ins.getD ((qX y.c.ags a).toNat+k) default).opn=true then tlF ((fI y R).ds.getD a default) (fI y R).vw (fI y R).now k (R a).R (NN R y.ds.length)else []:=λ_ _=>rfl
  generalize CU (fI y R) ins R y.ds.length=tf at *;generalize fI y R=z at *;refine zP (y.c.ags.length) [11,1051,2,3,4,5,6,7] [2,3,4,5,6,7] [2,3,4,5,6,7,11,78,86] [79,2,3,4,5,6,7,11,78,86] rfl (λi T U=>⟨(79,iA i)::T,(11,.box [.ref 1051 0 ((GB y.c tf i).map bD).length,.s (.slice none 0 0)])::(1051,.arr 1 ((GB y.c tf i).map bD) true)::U⟩) ?_;(conv=>whnf);refine⟨by rfl,?_,?_⟩
  ·intro i hi;have hid:i<y.ds.length:=by omega
   have ks:=zBi y.c i;have ht:=zFw y.c hw i hi;obtain⟨bs,hbs⟩:∃bs:Nat,qX y.c.ags i=(bs:Int):=⟨(qX y.c.ags i).toNat,by have:=qS hw i zB;omega⟩;obtain⟨N,hN⟩:∃N:Nat,(y.c.ags.getD i default).ses=(N:Int):=⟨(y.c.ags.getD i default).ses.toNat,by have:=hw.at (i:=i) zB;omega⟩
   have hbd:bs+N<=ins.length:=by
    have:=VD hw (show i+1<=y.c.ags.length by omega) (zX6 _);have h2:qX y.c.ags (i+1)=qX y.c.ags i+(y.c.ags.getD i default).ses:=rfl;omega
   have hN2:=hw.at (i:=i) zB;have hL:KR y.c i=(List.range N).map λk=>[plA i k (bs+k)]:=by unfold KR;rw[hbs,hN];rfl
   have htd:=VC hw tf i zB;have hsb:=qS hw i zB;rw[QR,show(y.c.ags.getD i default).ses.toNat=N by omega]
   have hy6:(List.map (λk=>rpA (R k)) (List.range y.ds.length))[i]? =some (.sl false ((R i).R.map bD)):=by
    rw[zX4,zYx hid];rfl
   have hDt:=(hR i hid).1;have hI:=hZ.di _ (zZ z.ds i zB);have hzi:=zR i hid
   have hau:(R i).d.au.length=N:=by
    have:=hDt.i.au;rw[hDt.ag]at this;have e9:=h.dg i hid;rw[show(MA (y.ds.getD i default) (y.now+1)).rg.ag=(y.ds.getD i default).rg.ag from rfl,e9]at this;omega
   have hau2:(MA (y.ds.getD i default) (y.now+1)).au.length=N:=by
    have:=(h.di _ (zZ y.ds i hid)).au;rw[h.dg i hid]at this
    show(y.ds.getD i default).au.length=N
    omega
   have hRl:=hDt.rn;rw[hau2]at hRl;have hRv:=hDt.rv
   have hEn:∀e∈NN R y.ds.length,EnK e:=λe he=>by
    obtain⟨a,ha,he⟩:=zBe he;exact(hR a ha).1.en e he
   have hEl:=KO hen y.ds.length;have hq9:=hI.a.q;have kt:=λk (hk:k<N)=>zLp z hZ.n0 zB i k (bs+k) zB hI.bd hq9 (by have:=hZ.wl;have:=hZ.v.j;omega) hZ.wb (by rw[hzi];omega) (R i).R hRv zB (NN R y.ds.length) hEn zB
   have hTf':∀k,k<N->tf i k=if(ins.getD (bs+k) default).opn=true then tlF (z.ds.getD i default) z.vw z.now k (R i).R (NN R y.ds.length)else []:=λk hk=>by
    rw[hTf i k,hbs];rfl
   clear hTf hEn hRv hR hDt hI zR;have eZ:uF z= .agg [zD wH y.c.js,zD vC y.c.ags,iA y.c.per,iA y.c.cap,iA y.c.hold,iA y.c.lock,bA false,iA (y.now+1),zD zK z.ds,zD wV z.sg,zD wT z.sv,zD iA z.st,zD vM z.vw]:=eT;rw[eZ]at kt;rw[show zD bD (R i).R= .sl false ((R i).R.map bD)from rfl]at kt;generalize (R i).R.map bD=Rm at *;rw[zYc];have hxl:=zA bD (GB y.c tf i);generalize (GB y.c tf i).map bD=X at *;unfold zDh at ks ht;unfold wP at ks;refine zU ks ?_
   refine uJ hF ht rfl [2,3,4,5,6,7,11,12,1051] [2,3,4,5,6,7,11,12,78,79] rfl rfl rfl rfl rfl rfl rfl rfl rfl (λk ys h=>?_) (λk=>[(2,.box [zD wH y.c.js,zD vC y.c.ags,iA y.c.per,iA y.c.cap,iA y.c.hold,iA y.c.lock,bA false,iA (y.now+1),zD zK z.ds,zD wV z.sg,zD wT z.sv,zD iA z.st,zD vM z.vw]),(3,.box [zD kT ins]),(4,.box [.s (.slice none 0 0),.s (.slice none 0 0),iA 0,iA 0,iA 0,iA 0,bA false,iA 0,.s (.slice none 0 0),.s (.slice none 0 0),.s (.slice none 0 0),.s (.slice none 0 0),.s (.slice none 0 0)]),(5,.box [.s (.slice none 0 0),.s (.slice none 0 0)]),(6,.box [.sl false (List.map (λk=>rpA (R k)) (List.range y.ds.length))]),(7,.box [zD gC (NN R y.ds.length)]),(11,.box [.ref 1051 0 (X++(CW tf i k).map bD).length,.s (.slice none 0 0)]),(12,.box [iA i]),(1051,.arr 1 (X++(CW tf i k).map bD) true)]) (λ_=>True)
    (T:=[(2,.ptr 2 0 0),(3,.ptr 3 0 0),(4,.ptr 4 0 0),(5,.ptr 5 0 0),(6,.ptr 6 0 0),(7,.ptr 7 0 0),(11,.ptr 11 0 0),(12,.ptr 12 0 0),(78,iA y.c.ags.length),(79,iA i)]) (by rw[show(CW tf i 0).map bD=[]from rfl,zY5];rfl) trivial (λk ys q hys hI9 F1 h1 h2=>?_) (λhI9=>?_)
   ·rw[hL,zX4,zYg]at h;obtain⟨x,_,rfl⟩:=h;rfl
   ·have hk:k<N:=by
     have:=(zYq.1 hys).1;rw[hL,zX2,zZk]at this;exact this
    rw[hL,zX4,zYx hk]at hys;obtain rfl:=yAj hys;have hyi:=zM kT ins (bs+k) zB;have hol:((CW tf i k).map bD).length=k:=by unfold CW;rw[zX2,zX2,zZk]
    have kt:=kt k hk;rw[zFk,zYc,show [tf i k].map bD=[zD yE (tf i k)]from rfl,hTf' k hk,<-zYv];generalize (CW tf i k).map bD=O at *;generalize ins.getD (bs+k) default=x at *;generalize tlF (z.ds.getD i default) z.vw z.now k (R i).R (NN R y.ds.length)=tl at *;unfold kT at hyi;obtain⟨xo,xs⟩:=x;refine WW ?_;refine⟨rfl,λF2 g1 g2=>?_⟩;dsimp only at hyi⊢;cases xo
    ·rw[zX0 zYk]
     (repeat' (first|refine aL ?_|refine xO (λhc=>?_) (λhc=>?_)|refine wB (λhc=>?_)|(refine zE ?_;first|(refine yS ?_;refine UI 117 rfl rfl rfl ?_;refine qR tok rfl rfl ?_))|refine SB ?_|fail))
     exact⟨rfl,trivial⟩
    ·rw[zX1 rfl]
     (have zc1:=kt;(repeat' (first|refine aL ?_|refine xO (λhc=>?_) (λhc=>?_)|refine wB (λhc=>?_)|(refine zE ?_;first|(refine yS ?_;refine UI 117 rfl rfl rfl ?_;refine qR tok rfl rfl ?_))|refine SB ?_|fail))<;>clear zc1)
     exact⟨rfl,trivial⟩
   ·rw[show(KR y.c i).length=N by rw[hL,zX2,zZk]]
    show uG _ _ _ _ ⟨_,_⟩ _
    refine WW ?_;rfl
  ·have hwl:z.vw.length<=4:=by have:=hZ.wl;have:=hZ.v.j;omega
   have kf:=zRb (y.now+1) z.vw zB hZ.wb;have kv:=GV [RN (y.now+1) z.vw] zS (λm hm=>by rw[zYz.1 hm];exact zU2 z.vw (y.now+1) zB zB hwl hZ.wb);rw[show zD yE [RN (y.now+1) z.vw]= .sl false [yE (RN (y.now+1) z.vw)]from rfl]at *; generalize RN (y.now+1) z.vw=fm at *;have hxl:=zA bD (GB y.c tf y.c.ags.length);generalize (GB y.c tf y.c.ags.length).map bD=X at *;refine zU kf ?_
   (refine uQ 67 ?_;refine jG [2,4,5,11,1051] [2,4,5,11,127] rfl ?_;(conv=>whnf);(try simp only[zY2,zX7]);first|refine xI (zH (kv) rfl rfl rfl rfl rfl) rfl ?_|refine uN (zH (kv) rfl rfl rfl rfl rfl) rfl rfl rfl ?_|refine aN (zH (kv) rfl rfl rfl rfl rfl) rfl rfl rfl ?_)
   refine WW ?_;exact zI [1051] rfl rfl rfl rfl
theorem zQ7 {y y':Cy} {ins:List In} {T:List (List Ms)} {f:Ms} (k:zN 18 [uF y,zD kT ins] [] (.tup [uF y',tdO T f]) (tdH T)):zN 18 [uF y,zD kT ins] [] (.tup [uF y',tdA T f]) []:=by
 refine k.frz [] ?_ rfl rfl
 show AV.tup [_,AV.agg [AV.sl false (List.take (T.map bD).length (T.map bD)),_]]=_
 rw[zX7];rfl
structure MtP (y y':Cy) (ins:List In) (T:List (List Ms)):Prop where
 i:GO y'
 c:y'.c=y.c
 n:y'.now=y.now+1
 l:T.length=ins.length
 v:∀x∈T,x.length<=1002/\∀m∈x,SW m
 f:SW (RN (y.now+1) y'.vw)
 off:∀s,s<ins.length->(ins.getD s default).opn=false->T.getD s []=[]
 on:∀s,s<ins.length->(ins.getD s default).opn=true->∃(l1 l2:List Ms) (d:xQ),T.getD s []=l1++(UW d y'.vw (y.now+1)::l2)/\l1.length=(ins.getD s default).its.length/\SW (UW d y'.vw (y.now+1))
 tk:∃R,TkR y ins R/\y'=fI y R/\T=GB y.c (CU y' ins R y.ds.length) y.c.ags.length
theorem zFl (y:Cy) (h:GO y) (hn:y.now<1000000000) (ins:List In) (hil:(ins.length:Int)=qX y.c.ags y.c.ags.length) (hin:∀i∈ins,InS i):
  ∃(y':Cy) (T:List (List Ms)),MtP y y' ins T/\zN 18 [uF y,zD kT ins] [] (.tup [uF y',tdO T (RN (y.now+1) y'.vw)]) (tdH T):=by
 obtain⟨R,hR,hb⟩:=zU0 h hn hil hin;have k:=zLn y h hn ins hil R hR (λi=>(hb i).1) (λi=>(hb i).2);have hZ:=zP5 h hR;have n0:=h.n0;have hw:=h.v.ag;have hdl:=h.dl;have hl:=VC hw (CU (fI y R) ins R y.ds.length) _ (zX6 _);have hwl:(fI y R).vw.length<=4:=by have:=hZ.wl;have:=hZ.v.j;omega
 have hEn:∀e∈NN R y.ds.length,EnK e:=λe he=>by
  obtain⟨a,ha,he⟩:=zBe he;exact(hR a ha).1.en e he
 refine⟨fI y R,GB y.c (CU (fI y R) ins R y.ds.length) y.c.ags.length,⟨hZ,rfl,rfl,zB,λx hx=>?_,zU2 _ _ zB zB hwl hZ.wb,λs hs ho=>?_,λs hs ho=>?_,R,hR,rfl,rfl⟩,k⟩
 ·obtain⟨s,hs,e⟩:=yCi.1 hx;obtain⟨a,k,h1,h2,h3,h4⟩:=ZT hw (CU (fI y R) ins R y.ds.length) _ (zX6 _) s hs;have e2:x=CU (fI y R) ins R y.ds.length a k:=by rw[<-h4,zX5,zYi hs,<-e];rfl
  rw[e2];unfold CU;split
  ·have hid:a<y.ds.length:=by omega
   have hDt:=(hR a hid).1
   have hau2:((MA (y.ds.getD a default) (y.now+1)).au.length:Int)=(y.c.ags.getD a default).ses:=by
    have:=(h.di _ (zZ y.ds a hid)).au;rw[h.dg a hid]at this;exact this
   have hRl:=hDt.rn;have hq:=hDt.i.a.q;have hzi:(fI y R).ds.getD a default=(R a).d:=bF hid;rw[hzi];exact zP7 _ hq _ _ (by show 0<=y.now+1;omega) (by show y.now+1<=_;omega) hwl hZ.wb k (R a).R hDt.rv zB _ hEn
  ·exact⟨zYe _,λm hm=>by cases hm⟩
 ·obtain⟨a,k,h1,h2,h3,h4⟩:=ZT hw (CU (fI y R) ins R y.ds.length) _ (zX6 _) s zB;rw[h4];unfold CU;rw[show(qX (fI y R).c.ags a).toNat+k=s from h3.symm,ho,zX0 zYk]
 ·obtain⟨a,k,h1,h2,h3,h4⟩:=ZT hw (CU (fI y R) ins R y.ds.length) _ (zX6 _) s zB;have hid:a<y.ds.length:=by omega
  have hDt:=(hR a hid).1
  have hau2:((MA (y.ds.getD a default) (y.now+1)).au.length:Int)=(y.c.ags.getD a default).ses:=by
   have:=(h.di _ (zZ y.ds a hid)).au;rw[h.dg a hid]at this;exact this
  have hq:=hDt.i.a.q;have hzi:(fI y R).ds.getD a default=(R a).d:=bF hid;have hrl:=hDt.rl k zB;have hol:(QT y.c ins a).length=(y.c.ags.getD a default).ses.toNat:=by unfold QT GE;rw[zX2,zZk]
  have hog:(QT y.c ins a).getD k default=ins.getD s default:=by
   unfold QT GE;rw[zX5,zX4,zYx zB,h3];rfl
  have hsi:fZ (QT y.c ins a) k=(ins.getD s default).its:=by
   unfold fZ;rw[hog,zX1 ⟨zB,ho⟩]
  rw[hsi]at hrl;refine⟨(R a).R.getD k [],(if((fI y R).ds.getD a default).au.getD k default=true then [trM (fI y R).now (NN R y.ds.length)]else []),(fI y R).ds.getD a default,?_,hrl,?_⟩
  ·rw[h4];unfold CU;rw[show(qX (fI y R).c.ags a).toNat+k=s from h3.symm,ho,zX1 rfl];unfold tlF;rw[zYv];rfl
  ·rw[hzi];exact zP6 _ hq _ _ zB zB hwl hZ.wb
theorem zDa (y:Cy) (h:GO y) (j p:Int):∃y':Cy,GO y'/\y'.c=y.c/\(y'.now=y.now/\y'.sg=y.sg)/\zN 56 [uF y,iA j,iA p] [] (uF y') []:=by
 have hb:=h.b;have hrf:=h.rf;have hjl:=zA wH y.c.js;have htl:=zA iA y.st;have htl2:=h.tl;have eC:uF y= .agg [zD wH y.c.js,zD vC y.c.ags,iA y.c.per,iA y.c.cap,iA y.c.hold,iA y.c.lock,bA false,iA y.now,zD zK y.ds,zD wV y.sg,zD wT y.sv,zD iA y.st,zD vM y.vw]:=by rw[<-hrf];rfl
 by_cases hj:0<=j/\j<(y.c.js.length:Int)
 case neg=>
  refine⟨y,h,rfl,⟨rfl,rfl⟩,?_⟩;have k1:=aW y hb;rw[eC]at k1⊢;by_cases h0:j<0
  ·(refine eM call56 λF hF=>?_)
   refine zU k1 ?_;exact zJ
  ·(refine eM call56 λF hF=>?_)
   refine zU k1 ?_;exact zJ
 obtain⟨j0,j1⟩:=hj;have hyj:=yM wH y.c.js j j0 j1;have hpl:=zA wU (y.c.js.getD j.toNat default).ph;by_cases hp:0<=p/\p<((y.c.js.getD j.toNat default).ph.length:Int)
 case neg=>
  refine⟨y,h,rfl,⟨rfl,rfl⟩,?_⟩;have k1:=aW y hb;rw[eC]at k1⊢;generalize y.c.js.getD j.toNat default=jn at *;unfold wH at hyj;by_cases h0:p<0
  ·(refine eM call56 λF hF=>?_)
   refine zU k1 ?_;exact zJ
  ·(refine eM call56 λF hF=>?_)
   refine zU k1 ?_;exact zJ
 obtain⟨p0,p1⟩:=hp;refine⟨⟨y.c,false,y.now,y.ds,y.sg,y.sv,y.st.set j.toNat p,y.vw⟩,⟨h.v,rfl,h.n0,h.dl,h.di,h.dg,h.sc,h.gl,h.sl,by dsimp only;rw[zZm];exact h.tl,h.wl,h.wb,h.j⟩,rfl,⟨rfl,rfl⟩,?_⟩;have k1:=QZ y hb;unfold zGa zGb aR at k1;rw[eC,hrf]at k1;rw[eC];have e2:(y.st.set j.toNat p).map iA=(y.st.map iA).set j.toNat (iA p):=zZ9 ..;rw[show uF ⟨y.c,false,y.now,y.ds,y.sg,y.sv,y.st.set j.toNat p,y.vw⟩= .agg [zD wH y.c.js,zD vC y.c.ags,iA y.c.per,iA y.c.cap,iA y.c.hold,iA y.c.lock,bA false,iA y.now,zD zK y.ds,zD wV y.sg,zD wT y.sv,.sl false ((y.st.map iA).set j.toNat (iA p)),zD vM y.vw] by rw[<-e2];rfl];clear e2;have hyt:=yM iA y.st j j0 zB;generalize y.c.js.getD j.toNat default=jn at *;unfold wH at hyj;refine eM call56 λF hF=>?_
 refine zU k1 ?_;refine zI [] rfl rfl ?_ rfl
 show AV.agg [_,_,_,_,_,_,_,_,.sl false (List.take (y.ds.map zK).length (y.ds.map zK)),.sl false (List.take (y.sg.map wV).length (y.sg.map wV)),.sl false (List.take (y.sv.map wT).length (y.sv.map wT)),.sl false (List.take (y.st.map iA).length ((y.st.map iA).set j.toNat (iA p))),_]=_
 rw[zX7,zX7,zX7,zYb (by rw[zZm];exact zX6 _)];rfl
section
open Classical in
noncomputable def GC (m:Ms):List Int:=if h:SW m then frF m.kind (XH h.2).choose else []
theorem GQ (m:Ms) (h:SW m):((GC m).length<=300/\(m.args≠[]->∃q:List Int,GC m=90::165::1::m.kind::q/\7<=q.length))/\zN 20 [yE m] [] (.tup [zD yA (GC m),iA 0]) []:=by
 have hs:=(XH h.2).choose_spec;have e:GC m=frF m.kind (XH h.2).choose:=by unfold GC;rw[yDu h]
 rw[e];generalize (XH h.2).choose=p at *;obtain⟨h1,h2,h3⟩:=hs;obtain⟨k,tk,ar,da⟩:=m;obtain⟨h4,h5⟩:=h;dsimp only at *;subst h4;refine⟨⟨?_,λh9=>?_⟩,h3⟩
 ·simp only[frF,be4,zYd,zX3,zX2,zZk];have:(aC k p.length).length<=10:=by unfold aC;simp
  have:=h2.1;omega
 ·refine⟨0::(p.length:Int)::(p++be4 (aH (aC k p.length++p))),by simp[frF,aC],?_⟩;have h8:=h2.2 h9;simp only[be4,zYd,zX3,zX2,zZk];omega
noncomputable def dL (l:List Ms):List Int:=(l.map GC).flatten
theorem GR (l:List Ms) (m:Ms):dL (l++[m])=dL l++GC m:=by simp[dL]
theorem RM:∀{l:List Ms},(∀m∈l,SW m)->(dL l).length<=300*l.length
 | [],_=>zYe _
 |m::l,h=>by
  have h1:=(GQ m (h m zS)).1.1;have h2:=RM (l:=l) λx hx=>h x ST
  have e:dL (m::l)=GC m++dL l:=rfl;rw[e,zX3,zYd];omega
theorem MU (l:List Ms) (hl:l.length<=1002) (h:∀m∈l,SW m):zN 98 [zD yE l] [] (zD yA (dL l)) []:=by
 have hml:=zA yE l;refine eM call98 λF hF=>?_
 refine WW ?_;refine xC 3 1001 1 rfl rfl rfl ?_;refine zY (l) [1001] [] [8,9] [3,10,8,9] rfl (λi pre T U=>⟨(3,.ref 1001 0 ((dL pre).map yA).length)::(10,iA i)::T,(1001,.arr 1 ((dL pre).map yA) true)::U⟩) ?_;(conv=>whnf);refine⟨by rfl,?_,?_⟩
 ·intro i pre x post hx hi;have hy:=yI yE hx hi;have hlt:=yB hx hi;obtain⟨⟨c1,_⟩,c2⟩:=GQ x (h x (xX hx));have hpl:=RM (l:=pre) λm hm=>h m (by rw[hx];simp[hm])
  have hpm:=zA yA (dL pre);have hbm:=zA yA (GC x);rw[GR,zYc];clear hx;generalize dL pre=X at *;generalize GC x=Y at *;unfold yE at *;refine zU c2 ?_;rfl
 ·(refine WW ?_)
  exact zI [] rfl rfl (zY0 (AV.sl false) zX7) rfl
structure aE where
 y:Cy
 ss:List Ss
def cN (y:Cy) (s:AV):AV:= .agg [zD wH y.c.js,zD vC y.c.ags,iA y.c.per,iA y.c.cap,iA y.c.hold,iA y.c.lock,bA false,iA y.now,zD zK y.ds,zD wV y.sg,zD wT y.sv,zD iA y.st,zD vM y.vw,s]
def kG (b:aE):AV:=cN b.y (zD kJ b.ss)
structure GT (b:aE):Prop where
 y:GO b.y
 l:(b.ss.length:Int)=qX b.y.c.ags b.y.c.ags.length
 s:∀s∈b.ss,SsI s
def GD (S:List (List Int)) (f:List Int):AV:= .agg [zD (zD yA) S,zD yA f]
def kC (ss:List Ss):List In:=ss.map λs=>(dN s).2
def QS (ss:List Ss) (i:Nat):List AV:=(List.range ss.length).map λk=>if k<i then kT (dN (ss.getD k default)).2 else .agg [bA false,.s (.slice none 0 0)]
def eW (ss:List Ss) (i:Nat):List Ss:=dR (λ_ s=>(dN s).1) ss i
noncomputable def US (T:List (List Ms)) (i:Nat):List AV:=(List.range T.length).map λk=>if k<i then zD yA (dL (T.getD k default))else .s (.slice none 0 0)
theorem zFm (ss:List Ss):QS ss ss.length=(kC ss).map kT:=by
 unfold QS kC;rw[eP,yCp];apply zZf;intro j;rw[zX4,zX4];by_cases hj:j<ss.length
 ·rw[zYx hj,zYi hj];simp only[Option.map_some,Function.comp,zX5,zYi hj,zZ3]
 ·rw[zYt wQ,zYt zB];rfl
theorem zFn (T:List (List Ms)):US T T.length=(T.map dL).map (zD yA):=by
 unfold US;rw[eP,yCp];apply zZf;intro j;rw[zX4,zX4];by_cases hj:j<T.length
 ·rw[zYx hj,zYi hj];simp only[Option.map_some,Function.comp,zX5,zYi hj,zZ3]
 ·rw[zYt wQ,zYt zB];rfl
theorem zFo (b:aE) (h:GT b) (y':Cy) (Td:List (List Ms)) (hM:MtP b.y y' (kC b.ss) Td) (k:zN 18 [uF b.y,zD kT (kC b.ss)] [] (.tup [uF y',tdA Td (RN (b.y.now+1) y'.vw)]) []):
  zN 57 [cN b.y (.ref 1021 0 b.ss.length)] [(1021,.arr 4 (b.ss.map kJ) false)] (.tup [cN y' (.ref 1021 0 b.ss.length),GD (Td.map dL) (dL [RN (b.y.now+1) y'.vw])]) [(1021,.arr 4 ((eW b.ss b.ss.length).map kJ) false)]:=by
 obtain⟨y,ss⟩:=b;have hy:=h.y;have hs:=h.s;have hl:=h.l;dsimp only at *;have hw:=hy.v.ag;have hrf:=hy.rf
 have hsb:ss.length<=8:=by
  have:=qS hw y.c.ags.length (zX6 _);have:=hw.1;omega
 have hrf':=hM.i.rf;have hTl:=hM.l;have hil:(kC ss).length=ss.length:=by unfold kC;rw[zX2]
 rw[hil]at hTl;have eC:uF y= .agg [zD wH y.c.js,zD vC y.c.ags,iA y.c.per,iA y.c.cap,iA y.c.hold,iA y.c.lock,bA false,iA y.now,zD zK y.ds,zD wV y.sg,zD wT y.sv,zD iA y.st,zD vM y.vw]:=by rw[<-hrf];rfl
 have eC':uF y'= .agg [zD wH y'.c.js,zD vC y'.c.ags,iA y'.c.per,iA y'.c.cap,iA y'.c.hold,iA y'.c.lock,bA false,iA y'.now,zD zK y'.ds,zD wV y'.sg,zD wT y'.sv,zD iA y'.st,zD vM y'.vw]:=by rw[<-hrf'];rfl
 rw[eC,eC',show∀f,tdA Td f= .agg [.sl false (Td.map bD),zD yE [f]]from λ_=>rfl]at k;have hTv:=hM.v;have kf:=MU [RN (y.now+1) y'.vw] zS (λm hm=>by rw[zYz.1 hm];exact hM.f);generalize RN (y.now+1) y'.vw=fm at *;have hsl:=zA kJ ss
 have hi0:QS ss 0=List.replicate ss.length (.agg [bA false,.s (.slice none 0 0)]):=by
  unfold QS;apply zZf;intro j;rw[zX4,zZs];by_cases hj:j<ss.length
  ·rw[zYx hj,zX1 hj];simp
  ·rw[zX0 hj,zYt wQ];rfl
 have hs0:eW ss 0=ss:=kN _ _;unfold cN;refine eM call57 λF hF=>?_
 refine WW ?_;have hsn:∀i,((eW ss i).map kJ).length=ss.length:=λi=>by unfold eW;rw[zX2,wL]
 have hin:∀i,(QS ss i).length=ss.length:=λi=>by unfold QS;rw[zX2,zZk]
 refine zP (ss.length) [1021,14,1,2,3] [1,2,3] [1,2,3,4,17] [18,1,2,3,4,17] rfl (λi T U=>⟨(18,iA i)::T,(1021,.arr 4 ((eW ss i).map kJ) false)::(14,.arr 2 (QS ss i) false)::U⟩) ?_;(conv=>whnf);refine⟨by(rw[hi0,hs0];rfl),?_,?_⟩
 ·intro i hi;have hys:((eW ss i).map kJ)[i]? =some (kJ (ss.getD i default)):=by rw[zX4];unfold eW;rw[vO,zX1 hi,zX0 (yBk i)];rfl
  have hyi:(QS ss i)[i]? =some (.agg [bA false,.s (.slice none 0 0)]):=cO _ _ _ _ hi;have e1:(eW ss (i+1)).map kJ=((eW ss i).map kJ).set i (kJ (dN (ss.getD i default)).1):=by unfold eW;rw[uO _ _ _ _ hi]
  have e2:QS ss (i+1)=(QS ss i).set i (kT (dN (ss.getD i default)).2):=eO _ _ _ _ hi;have hI:=hs _ (zZ ss i hi);have kt:=zBh (ss.getD i default) hI.y (by have:=hI.n;omega);have h1:=hsn i;have h2:=hin i;rw[e1,e2];clear e1 e2 hi0 hs0 hI hs hTv k;generalize (eW ss i).map kJ=X at *;generalize QS ss i=Y at *;generalize (dN (ss.getD i default)).1=s1 at *;generalize (dN (ss.getD i default)).2=n1 at *;generalize ss.getD i default=s0 at *;refine zU kt ?_;rfl
 ·rw[zFm];refine uC [1,2,3,1021] [1,2,3,4,17,18] rfl ?_
  (conv=>whnf)
  have hbm:=zA kT (kC ss);simp only[zY2];rw[zYb (l:=(kC ss).map kT) zB];have hTm:=zA bD Td;refine yQ (wZ k kf) ?_
  have hd0:US Td 0=List.replicate Td.length (.s (.slice none 0 0)):=by
   unfold US;apply zZf;intro j;rw[zX4,zZs];by_cases hj:j<Td.length
   ·rw[zYx hj,zX1 hj];simp
   ·rw[zX0 hj,zYt wQ];rfl
  have hdn:∀i,(US Td i).length=Td.length:=λi=>by unfold US;rw[zX2,zZk]
  rw[hTm];refine zP (Td.length) [50,1,2,3,8,1021] [1,2,3,8,1021] [1,2,3,8,56,57] [58,1,2,3,8,56,57] rfl (λi T U=>⟨(58,iA i)::T,(50,.arr 1 (US Td i) false)::U⟩) ?_;(conv=>whnf);refine⟨by(rw[hd0];rfl),?_,?_⟩
  ·intro i hi;have hyT:=zM bD Td i hi;have hyd:(US Td i)[i]? =some (.s (.slice none 0 0)):=cO _ _ _ _ hi;have e1:US Td (i+1)=(US Td i).set i (zD yA (dL (Td.getD i default))):=eO _ _ _ _ hi;obtain⟨v1,v2⟩:=hTv _ (zZ Td i hi);have kg:=MU (Td.getD i default) v1 v2;have h2:=hdn i;rw[e1];unfold bD at hyT;clear e1 hd0 hdn hi0 hs0 hs hTv k v2 kf;generalize US Td i=X at *;generalize dL (Td.getD i default)=bs at *;generalize Td.getD i default=ti at *;refine zU kg ?_;rfl
  ·(refine WW ?_)
   refine zI [1021] rfl rfl ?_ rfl
   show AV.tup [_,AV.agg [AV.sl false (List.take Td.length (US Td Td.length)),_]]=_
   rw[zYb (l:=US Td Td.length) (zZ1 (hdn _)),zFn];rfl
end
end Av
end Go.Proofs.YtmamjhmoegjapaaGreat
