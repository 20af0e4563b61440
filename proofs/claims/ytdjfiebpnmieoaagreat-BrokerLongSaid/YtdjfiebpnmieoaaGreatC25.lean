/- Part 25. -/
import Derived.Test.YtdjfiebpnmieoaaGreatC24
namespace Go.Proofs.YtdjfiebpnmieoaaGreat.Av
open Tryz
set_option linter.all false
set_option maxRecDepth 4000
set_option maxHeartbeats 8000000
open List renaming length->ln,replicate->nm,range->ny,take->oj
open Inhabited renaming default->dd
variable {c:Cf}{y:Cy}{f4:Int}{ds:List xP}{R:Nat->DR}{P:Program}{α:Type}
def HL (u:List In) (b k:Nat):List In:=(ny k).map λj=>u.getD (b+j) dd
def Yk (u:List In) (b k:Nat):HL u b (k+1)=HL u b k++[u.getD (b+k) dd]:=by simp[HL,zCf]
def BG (c:Cf) (u:List In) (a:Nat):List In:=HL u (jI c.ags a).toNat (c.ags.getD a dd).ses.toNat
def xx (r:DR):AV:=zD jO r.R
def NZ (f4:Int) (ds:List xP) (i:Nat):List xP:=XA (λ_ d=>VA d f4) ds i
def cF (f4:Int) (ds:List xP) (u:Nat->DR) (i:Nat):List xP:=(ny (ln ds)).map λk=>if k<i then(u k).d else VA (ds.getD k dd) f4
def ij (n:Nat) (u:Nat->DR) (i:Nat):List AV:=(ny n).map λk=>if k<i then xx (u k)else .s (.slice none 0 0)
def UD (u:Nat->DR) (i:Nat):List En:=((ny i).map λk=>(u k).en).flatten
def cH (u:Nat->DR) (i:Nat):List Int:=((ny i).map λk=>(u k).ks).flatten
def LI (u:Nat->DR) (i:Nat):UD u (i+1)=UD u i++(u i).en:=by simp[UD,zCf]
def LJ (u:Nat->DR) (i:Nat):cH u (i+1)=cH u i++(u i).ks:=by simp[cH,zCf]
theorem RG {u:Nat->DR} (h:∀i,(u i).en.length<=2000):∀i,(UD u i).length<=2000*i
 |0=>zAr _
 |i+1=>by
  have:=RG h i;have:=h i;rw[LI,zAh];omega
theorem RH {u:Nat->DR} (h:∀i,(u i).ks.length<=2000):∀i,(cH u i).length<=2000*i
 |0=>zAr _
 |i+1=>by
  have:=RH h i;have:=h i;rw[LJ,zAh];omega
def eX (n i:Nat) (f g:Nat->α) (hi:i<n):((ny n).map λk=>if k<i+1 then f k else g k)=((ny n).map λk=>if k<i then f k else g k).set i (f i):=by apply zBb<;>grind [List.length_map,List.length_range,List.getElem?_range,List.getElem?_eq_none]
def bB (n i:Nat) (f g:Nat->α) (hi:i<n):((ny n).map λk=>if k<i then f k else g k)[i]? =some (g i):=by grind
def VG (n:Nat) (f g:Nat->α):((ny n).map λk=>if k<n then f k else g k)=(ny n).map f:=by grind [List.map_congr_left]
def XE {l:List Ag} (h:lf l) {i j:Nat} (u:i<=j) (hj:j<=ln l):jI l i<=jI l j:=by
 induction j with
 |zero=>rw[show i=0 by omega];exact zCn _
 |succ j z=>
  grind [lf,jI]
theorem Sh (c:Cf) (M:lf c.ags) (f4:Int) (n0:0<=f4) (n1:f4<=1073741824) (ds:List xP) (a6:ln ds=ln c.ags) (W:∀i,i<ln ds->qR c (ds.getD i dd)) (z:List In) (b3:(ln z:Int)=jI c.ags (ln c.ags))
  (u:Nat->DR) (ar:∀i,(u i).en.length<=2000) (au:∀i,(u i).ks.length<=2000) (hr:∀i,i<ln ds->zO 119 [wO c,zK (VA (ds.getD i dd) f4),zD qL (BG c z i),iA f4] [] (Ck (u i)) [])
  (A B C:List AV) (a2 a3 a4:Nat) (vw:List Vw):
  zO 58 [bD c false f4 (.ref 1011 0 (ds.map zK).length) (.ref 1012 0 a2) (.ref 1013 0 a3) (.ref 1014 0 a4) (zD wZ vw),zD qL z] [(1011,.arr 17 (ds.map zK) false),(1012,.arr 5 A false),(1013,.arr 3 B false),(1014,.arr 1 C false)]
   (.tup [.sl false ((ny (ln ds)).map λk=>xx (u k)),zD kW (UD u (ln ds)),zD iA (cH u (ln ds))]) [(1011,.arr 17 ((cF f4 ds u (ln ds)).map zK) false),(1012,.arr 5 A false),(1013,.arr 3 B false),(1014,.arr 1 C false)]:=by
 have a7:=zA zK ds;have az:=zA vX c.ags;have b6:=M.1;have a1:∀i,(NZ f4 ds i).length=ln ds:=λi=>wR _ _ _
 have a5:∀i,((NZ f4 ds i).map zK).length=ln ds:=λi=>by rw[zAa,a1]
 have I:NZ f4 ds 0=ds:=qP _ _;unfold bD;refine eM call58 λF hF=>?_
 refine WW ?_;refine zN (ln ds) [1011,2,3,1012,1013,1014] [2,3,1012,1013,1014] [2,3,21,57] [22,2,3,21,57] Z (λi T U=>⟨(22,iA i)::T,(1011,.arr 17 ((NZ f4 ds i).map zK) false)::U⟩) ?_;(conv=>whnf);refine⟨by(rw[I];rfl),?_,?_⟩
 .intro i hi
  have hy:((NZ f4 ds i).map zK)[i]? =some (zK (ds.getD i dd)):=by
   rw[zAi];unfold NZ;rw[vZ,Os hi,Of (zC5 i)];rfl
  have e:(NZ f4 ds (i+1)).map zK=((NZ f4 ds i).map zK).set i (zK (VA (ds.getD i dd) f4)):=by unfold NZ;rw[vI _ _ _ _ hi]
  have kb:=Tq (W i hi) f4;have bb:=a5 i;rw[e];clear e hr W I;generalize VA (ds.getD i dd) f4=d2 at *;generalize ds.getD i dd=d1 at *;generalize (NZ f4 ds i).map zK=X at *;refine zQ kb ?_;rfl
 .have ag:(NZ f4 ds (ln ds)).map zK=(cF f4 ds u 0).map zK:=by
   congr 1
   unfold cF;apply zBb;intro j;unfold NZ;rw[vZ,zAi];by_cases hj:j<ln ds
   .rw[Os hj,Os hj,zBu hj];simp
   .rw[Of hj,zB2 uH];rfl
  rw[ag];refine WW ?_;have av:min (ln ds:Int) (ln c.ags:Int)=(ln ds:Int):=by rw[a6];exact zF1 _
  rw[a7,az,av]
  have ax:ij (ln ds) u 0=nm (ln ds) (.s (.slice none 0 0)):=by
   unfold ij;apply zBb;intro j;rw[zAi,zCj];by_cases hj:j<ln ds
   .rw[zBu hj,Os hj];simp
   .rw[Of hj,zB2 uH];rfl
  have a9:∀i,(ij (ln ds) u i).length=ln ds:=λi=>by unfold ij;rw[zAa,zBo]
  have ba:∀i,((cF f4 ds u i).map zK).length=ln ds:=λi=>by unfold cF;rw[zAa,zAa,zBo]
  refine zS 9 1042 3 Z Z Z ?_;refine zS 10 1043 1 Z Z Z ?_;refine zN (ln ds) [41,1011,1042,1043,2,3,1012,1013,1014] [2,3,1012,1013,1014] [2,3,8,49,57] [9,10,50,2,3,8,49,57] Z (λi T U=>⟨(9,.ref 1042 0 ((UD u i).map kW).length)::(10,.ref 1043 0 ((cH u i).map iA).length)::(50,iA i)::T,(41,.arr 1 (ij (ln ds) u i) false)::(1011,.arr 17 ((cF f4 ds u i).map zK) false)::(1042,.arr 3 ((UD u i).map kW) true)::(1043,.arr 1 ((cH u i).map iA) true)::U⟩) ?_;(conv=>whnf);refine⟨by(rw[ax];rfl),?_,?_⟩
  .intro i hi;have a8:i<ln c.ags:=by omega
   have hy:((cF f4 ds u i).map zK)[i]? =some (zK (VA (ds.getD i dd) f4)):=by
    rw[zAi];unfold cF;rw[bB _ _ _ _ hi];rfl
   have e1:(cF f4 ds u (i+1)).map zK=((cF f4 ds u i).map zK).set i (zK (u i).d):=by
    unfold cF;rw[eX _ _ _ _ hi,zBs]
   have e2:ij (ln ds) u (i+1)=(ij (ln ds) u i).set i (xx (u i)):=by
    unfold ij;rw[eX _ _ _ _ hi]
   have b9:(ij (ln ds) u i)[i]? =some (.s (.slice none 0 0)):=by
    unfold ij;exact bB _ _ _ _ hi
   have bb:=ba i;have bx:=a9 i;have b1:=RG ar i;have b4:=RH au i;have bf:=ar i;have br:=au i;have b2:=zA kW (UD u i);have b5:=zA iA (cH u i);have bk:=zA kW (u i).en;have bu:=zA iA (u i).ks;have ks:=pf c i;have G:=hr i hi;have ht:=Jk c M i a8;rw[e1,e2,LI,LJ,zAf,zAf];clear e1 e2 hr W I ax ag;unfold Ck ww at G
   change zO 119 [_,_,_,_] [] (.tup [_,xx (u i),_,_]) []at G
   generalize VA (ds.getD i dd) f4=D1,(u i).d=D2 at *;rw[show xx (u i)= .sl false ((u i).R.map jO)from Z]at *; generalize (u i).R.map jO=R2,(cF f4 ds u i).map zK=X,ij (ln ds) u i=Y,(UD u i).map kW=S,(cH u i).map iA=V at *;rw[show zD kW (u i).en= .sl false ((u i).en.map kW)from Z,show zD iA (u i).ks= .sl false ((u i).ks.map iA)from Z]at G;unfold zD at G;unfold zK xC at hy G⊢;unfold Mh at ks ht;unfold wO at ks G;refine zQ ks ?_;obtain⟨E,ap⟩:∃E:Nat,jI c.ags i=(E:Int):=⟨(jI c.ags i).toNat,by have:=kN M i zB;omega⟩;obtain⟨N,hN⟩:∃N:Nat,(c.ags.getD i dd).ses=(N:Int):=⟨(c.ags.getD i dd).ses.toNat,by have:=M.at (i:=i) zB;omega⟩
   have b0:E+N<=ln z:=by
    have:=XE M (show i+1<=ln c.ags by omega) (zAg _);have h2:jI c.ags (i+1)=jI c.ags i+(c.ags.getD i dd).ses:=rfl;omega
   have ac:=M.at (i:=i) zB;have hL:FM c i=(ny N).map λk=>[Kk i k (E+k)]:=by unfold FM;rw[ap,hN];rfl
   rw[show BG c z i=HL z E N by unfold BG;rw[ap,hN];rfl]at G;rw[hN]at ac;have bl:=zA qL z;refine qJ 12 0 1041 2 Z Z Z Z Z ?_
   refine qH hF ht Z [2,3,12,41,1011,1012,1013,1014,1041,1042,1043] [2,3,8,9,10,11,12,49,50] Z Z Z Z Z Z Z Z Z (λk ys h=>?_) (λk=>[(2,.box [zD wD c.js,zD vX c.ags,iA c.per,iA c.cap,iA c.hold,iA c.lock,bA false,iA f4,.ref 1011 0 (ln ds),.ref 1012 0 a2,.ref 1013 0 a3,.ref 1014 0 a4,zD wZ vw]),(3,.box [zD qL z]),(12,.box [.ref 1041 0 ((HL z E k).map qL).length]),(41,.arr 1 Y false),(1011,.arr 17 X false),(1012,.arr 5 A false),(1013,.arr 3 B false),(1014,.arr 1 C false),(1041,.arr 2 ((HL z E k).map qL) true),(1042,.arr 3 S true),(1043,.arr 1 V true)]) (λ_=>True)
    (T:=[(2,.ptr 2 0 0),(3,.ptr 3 0 0),(8,.ref 41 0 (ln ds)),(9,.ref 1042 0 (ln S)),(10,.ref 1043 0 (ln V)),(11,iA i),(12,.ptr 12 0 0),(49,iA (ln ds)),(50,iA i)]) Z trivial (λk ys y L W F1 h1 h2=>?_) (λW=>?_)
   .rw[hL,zAi,zAs]at h;obtain⟨x,_,rfl⟩:=h;rfl
   .have hk:k<N:=by
     have:=(zAz.1 L).1;rw[hL,zAa,zBo]at this;exact this
    rw[hL,zAi,zBu hk]at L;obtain rfl:=zDm L;have bd:=zJ qL z (E+k) zB;have b7:((HL z E k).map qL).length=k:=by unfold HL;rw[zAa,zAa,zBo]
    rw[Yk,zAf];generalize (HL z E k).map qL=O,z.getD (E+k) dd=x at *;rw[show [x].map qL=[.agg [bA x.opn,zD wK x.its]]from Z];unfold qL at bd;refine WW ?_;refine⟨rfl,λF2 g1 g2=>?_⟩;refine WW ?_;exact⟨rfl,trivial⟩
   .rw[show(FM c i).length=N by rw[hL,zAa,zBo]];generalize HL z E N=O at*
    show uR _ _ _ _ ⟨_,_⟩ _
    refine wJ [2,3,12,41,1011,1012,1013,1014,1042,1043] [2,3,8,9,10,11,12,49,50] Z ?_
    (conv=>whnf)
    simp only[zAu,zAb];clear ks ht hL hN ac;refine zQ G ?_;rfl
  .rw[ij,VG];refine WW ?_;refine zH [1011,1012,1013,1014] Z Z ?_ Z
   show AV.tup [.sl false (oj (ln ds) (List.map (λk=>xx (u k)) (ny (ln ds)))),.sl false (oj ((UD u (ln ds)).map kW).length ((UD u (ln ds)).map kW)),.sl false (oj ((cH u (ln ds)).map iA).length ((cH u (ln ds)).map iA))]=_
   rw[zAj (by rw[zAa,zBo];exact zAg _),zAb,zAb];rfl
structure JI (j:Jn) (s:Sg) (v:Sv) (f4:Int):Prop where
 c:CV j s.c
 n:v.en.length=j.ph.length
 e:∀e∈v.en,-1<=e/\e<=f4
 g:0<=v.gr/\v.gr<=60
def Rc (g:Cf) (s:Sv) (l:List Cl) (f4:Int) (h:0<=s.gr/\s.gr<=60):0<=(qI g s l f4).gr/\(qI g s l f4).gr<=60:=by
 unfold qI;split
 .grind
 .unfold dC;split
  .exact⟨zCn _,(by decide:(0:Int)<=60)⟩
  .exact h
def f8 {j:Jn} (J:JV j) {s:Sg} {v:Sv} (u:0<=f4) (H:JI j s v f4) (g:Cf) (l:List Cl) (k:Int):JI j (wc g j s v l k f4).1 (wc g j s v l k f4).2 f4:=by
 refine⟨Pz J H.c g v l k f4,?_,?_,?_⟩
 .unfold wc;split
  .exact(PN _ _).trans H.n
  .split
   .exact(PN _ _).trans ((VL ..).trans H.n)
   .dsimp only;unfold fS;split
    all_goals exact(VL ..).trans H.n
 .have hd:=Ml g v l f4 u H.e;unfold wc;split
  .exact LX _ _ u H.e
  all_goals grind [wc,LX,fS]
 .have hd:=Rc g v l f4 H.g;unfold wc;split
  .exact⟨zCn _,(by decide:(0:Int)<=60)⟩
  .split
   .exact⟨zCn _,(by decide:(0:Int)<=60)⟩
   all_goals grind [wc,fS]
theorem Xk:∀(l ga:List Lg),jG ga l=true->∀g∈l,NJ g=true
 | [],_,_,g,u=>by cases u
 |x::l,ga,h,g,u=>by
  unfold jG at h;simp only[zAn]at h
  rcases zBv.1 u with rfl|u
  .exact h.1
  .exact Xk l _ h.2.2 g u
def Wk {st:St} {C E G:Nat} {x y z:Operand} {k:IntKind} {m n l:Int} (hx:yY (zM st.tm) x= .s (.int k m)) (M:yY (zM st.tm) y= .s (.int k n)) (O:yY (zM st.tm) z= .s (.int k l)):vC P st (.call ⟨.builtin .min, #[x,y,z], #[C,E,G]⟩) (.s (.int k (min (min m n) l))) [] [] []:=
 xA λS X tm h w β a B A Y U u=>by
  obtain⟨d0,o0,y0,p0,V,W⟩:=S;dsimp only at B;subst B;have h1:=vY u A (x:=x) gH hx;have h2:=vY u A (x:=y) gH M;have L:=vY u A (x:=z) gH O;refine⟨.int k (min (min m n) l),?_,.fz _ _ (.s _)⟩;have e1:(if n<m then n else m)=min m n:=by omega
  have I:(if l<min m n then l else min m n)=min (min m n) l:=by omega
  simp[execOp,resolve,invoke,builtin,Builtin.min_,Builtin.min2,h1,h2,L,e1,I]
def BH {st:St} {op:Op} {v:AV} {d:List (Nat×wB)} {r nw:List Nat} (hs:vC P st op v d r nw) (E:(xD d).all (r.contains ·)=true) (A:(xD d).map (zE st.h)=(xD d).map (zE d)):vC P st op v [] r nw:=
 ⟨λX G h B hh C=>by
  have h1:=hs.run X G h B hh C
  have e:over d h=over [] h:=funext λk=>by
   unfold over
   cases hk:zE d k with
   |none=>rfl
   |some e=>
    have u:=uS hk;obtain⟨i,hi⟩:=zDz u;have e1:=zAv (·[i]?) A;have z:zE st.h k=zE d k:=by simpa [hi]using e1
    have e3:=hh k (by have:=zAq.1 E k u;simpa using this)
    show some e=h k
    rw[e3,z,hk]
  rwa [e]at h1⟩
def Vk {z j:Int} {x:Rq} {c:Cl} (h:c∈LM z j x) (hx:I9 x) (A:0<=f4) (hs:∀g∈x.legs,g.sc<=f4):(0<=c.k/\c.k<=3)/\(0<=c.si/\c.si<=f4):=by
 unfold LM at h;split at h
 .cases h
 .split at h
  .cases h
  .rename_i h1;rw[zBf]at h;subst h;dsimp only;refine⟨⟨hx.c0,hx.c1⟩,?_⟩;by_cases hi:(RZ (λr:Lg=>r.jn==j) x.legs).toNat<ln x.legs
   .have u:=zY x.legs _ hi;have hl:=hx.lg;unfold sa at hl;rw[zAn]at hl;have:=hs _ u;have hv:=Xk _ _ hl.2 _ u
    grind [LM,RZ,NJ]
   .rw[zAl,zB2 zB]
    show(0:Int)<=0/\(0:Int)<=f4
    omega
def BI {j:Int} (A:∀d∈ds,qR c d) (B:0<=f4) (hs:∀d∈ds,HQ f4 d.rq):∀x∈gC j ds,(0<=x.k/\x.k<=3)/\(0<=x.si/\x.si<=f4):=λx hx=>by
 unfold gC at hx;obtain⟨y,u,hx⟩:=zEm.1 hx;obtain⟨d,hd,rfl⟩:=zB0.1 u;unfold dB at hx;obtain⟨y,u,hx⟩:=zEm.1 hx;obtain⟨r,z,rfl⟩:=zB0.1 u;exact Vk hx ((A d hd).v.ok r z) B (hs d hd r z)
theorem PJ (j:Int):∀l:List xP,(∀d∈l,ln d.rq<=4)->(gC j l).length<=4*ln l
 | [],_=>zAg _
 |d::l,h=>by
  have h1:=bC d.rg.num j d.rq;have h2:=PJ j l (λx hx=>h x OT);have u:=h d zW;have e:gC j (d::l)=dB d.rg.num j d.rq++gC j l:=rfl;rw[e,zAh,zAm];omega
def XF (c:Cf) (u:List Sg) (sv:List Sv) (st:List Int) (ds:List xP) (f4:Int) (k:Nat):Sg×Sv:=wc c (c.js.getD k dd) (u.getD k dd) (sv.getD k dd) (gC (k:Int) ds) (st.getD k dd) f4
def VH (D:Nat->Sg×Sv) (l:List Sg) (i:Nat):List Sg:=XA (λk _=>(D k).1) l i
def VI (D:Nat->Sg×Sv) (l:List Sv) (i:Nat):List Sv:=XA (λk _=>(D k).2) l i
def UP (l:List Int) (i:Nat):List Int:=XA (λ_ _=> -1) l i
def Rh (u:List Jn) (D:Nat->Sg×Sv) (n i:Nat):List AV:=(ny n).map λk=>if k<i then wZ (RA (u.getD k dd) (D k).1 (D k).2)else .agg [bA false,bA false,.s (.slice none 0 0),.s (.slice none 0 0)]
def J7 (c:Cf) (f4:Int) (ds:List xP) (v:AV) (u:List Sg) (sv:List Sv) (st:List Int):List (Nat×wB):=
 [(2,.box [zD wD c.js,zD vX c.ags,iA c.per,iA c.cap,iA c.hold,iA c.lock,bA false,iA f4,zD zK ds,.ref 1012 0 (u.map wC).length,.ref 1013 0 (sv.map xY).length,.ref 1014 0 (st.map iA).length,v]),(1012,.arr 5 (u.map wC) false),(1013,.arr 3 (sv.map xY) false),(1014,.arr 1 (st.map iA) false)]
theorem Uk (c:Cf) (hv:HT c) (f4:Int) (n0:0<=f4) (n1:f4<=1000000000) (ds:List xP) (a4:ln ds<=4) (V:∀d∈ds,qR c d) (hs:∀d∈ds,HQ f4 d.rq) (u:List Sg) (sv:List Sv) (st:List Int) (vw:List Vw)
  (hg:ln u=ln c.js) (L:ln sv=ln c.js) (I:ln st=ln c.js) (hj:∀k,k<ln c.js->JI (c.js.getD k dd) (u.getD k dd) (sv.getD k dd) f4):
  zO 60 [.ptr 2 0 0] (J7 c f4 ds (zD wZ vw) u sv st) (.tup [])
   (J7 c f4 ds (.ref 1015 0 (ln c.js)) (VH (XF c u sv st ds f4) u (ln c.js)) (VI (XF c u sv st ds f4) sv (ln c.js)) (UP st (ln c.js))++[(1015,.arr 4 (Rh c.js (XF c u sv st ds f4) (ln c.js) (ln c.js)) false)]):=by
 have ag:=zA wD c.js;have ac:=zA wC u;have ar:=zA xY sv;have ap:=zA iA st;have a5:=hv.j;unfold J7;refine eM call60 λF hF=>?_
 (repeat' (first|refine uD ?_|apply yZ|apply xM|intro hc|(apply zG;first|(apply zG;refine yE (Wk Z Z Z) Z ?_)|(apply eJ;refine cJ 1015 tok Z Z Z Z Z Z Z Z Z Z Z Z Z zB zB Z Z Z ?_))|fail))
 rw[ag,ac,ar,hg,L,zF1,zF1]
 (repeat' (first|refine uD ?_|apply yZ|apply xM|intro hc|(apply zG;first|(apply eJ;refine cJ 1015 tok Z Z Z Z Z Z Z Z Z Z Z Z Z zB zB Z Z Z ?_))|fail))
 have M:∀D,Rh c.js D (ln c.js) 0=nm (ln c.js) (.agg [bA false,bA false,.s (.slice none 0 0),.s (.slice none 0 0)]):=λD=>by
  unfold Rh;apply zBb;intro j;rw[zAi,zCj];by_cases hj:j<ln c.js
  .rw[zBu hj,Os hj];simp
  .rw[Of hj,zB2 uH];rfl
 have hC:=PJ;have C:∀D,VH D u 0=u:=λD=>qP _ _
 have G:∀D,VI D sv 0=sv:=λD=>qP _ _
 have E:UP st 0=st:=qP _ _;have z:∀D i,((VH D u i).map wC).length=ln c.js:=λD i=>by unfold VH;rw[zAa,wR,hg]
 have B:∀D i,((VI D sv i).map xY).length=ln c.js:=λD i=>by unfold VI;rw[zAa,wR,L]
 have A:∀i,((UP st i).map iA).length=ln c.js:=λi=>by unfold UP;rw[zAa,wR,I]
 have O:∀D i,(Rh c.js D (ln c.js) i).length=ln c.js:=λD i=>by unfold Rh;rw[zAa,zBo]
 rw[ap,I,z,B,A];refine zN (ln c.js) [1012,1013,1014,1015,2] [2] [0,28] [29,0,28] Z (λi T U=>⟨(29,iA i)::T,(1012,.arr 5 ((VH (XF c u sv st ds f4) u i).map wC) false)::(1013,.arr 3 ((VI (XF c u sv st ds f4) sv i).map xY) false)::(1014,.arr 1 ((UP st i).map iA) false)::(1015,.arr 4 (Rh c.js (XF c u sv st ds f4) (ln c.js) i) false)::U⟩) ?_;(conv=>whnf);refine⟨by(rw[C,G,E,M];rfl),?_,?_⟩
 .intro i hi;have a9:=zJ wD c.js i hi;have a8:((VH (XF c u sv st ds f4) u i).map wC)[i]? =some (wC (u.getD i dd)):=by rw[zAi];unfold VH;rw[vZ,Os zB,Of (zC5 i)];rfl
  have bb:((VI (XF c u sv st ds f4) sv i).map xY)[i]? =some (xY (sv.getD i dd)):=by rw[zAi];unfold VI;rw[vZ,Os zB,Of (zC5 i)];rfl
  have ba:((UP st i).map iA)[i]? =some (iA (st.getD i dd)):=by rw[zAi];unfold UP;rw[vZ,Os zB,Of (zC5 i)];rfl
  have bf:(Rh c.js (XF c u sv st ds f4) (ln c.js) i)[i]? =some (.agg [bA false,bA false,.s (.slice none 0 0),.s (.slice none 0 0)]):=bB _ _ _ _ hi;have eg:(VH (XF c u sv st ds f4) u (i+1)).map wC=((VH (XF c u sv st ds f4) u i).map wC).set i (wC (XF c u sv st ds f4 i).1):=by unfold VH;rw[vI _ _ _ _ zB]
  have ev:(VI (XF c u sv st ds f4) sv (i+1)).map xY=((VI (XF c u sv st ds f4) sv i).map xY).set i (xY (XF c u sv st ds f4 i).2):=by unfold VI;rw[vI _ _ _ _ zB]
  have ek:(UP st (i+1)).map iA=((UP st i).map iA).set i (iA (-1)):=by unfold UP;rw[vI _ _ _ _ zB]
  have ew:Rh c.js (XF c u sv st ds f4) (ln c.js) (i+1)=(Rh c.js (XF c u sv st ds f4) (ln c.js) i).set i (wZ (RA (c.js.getD i dd) (XF c u sv st ds f4 i).1 (XF c u sv st ds f4 i).2)):=eX _ _ _ _ hi;have J:=hv.jv _ (zY c.js i hi);have H:=hj i hi;have cl:(gC (i:Int) ds).length<=4*ln ds:=hC i ds λd hd=>(V d hd).v.n4
  have S:=BI (j:=(i:Int)) V n0 hs;have hp:=hv.p;have a3:=hv.cp;have a2:=J.n;have a1:=H.n;have HD:Qr c (sv.getD i dd) (gC (i:Int) ds) f4:=⟨hp.1,zB,zB,n0,n1,H.e,λx hx=>(S x hx).1,λx hx=>(S x hx).2,zB,zB⟩
  have kd:zO 121 [wO c,wD (c.js.getD i dd),wC (u.getD i dd),xY (sv.getD i dd),zD kS (gC (i:Int) ds),iA (st.getD i dd),iA f4] [] (.tup [wC (XF c u sv st ds f4 i).1,xY (XF c u sv st ds f4 i).2]) []:=
   Ut c _ J _ H.c _ _ _ f4 HD (by have:=Rc c (sv.getD i dd) (gC (i:Int) ds) f4 H.g;omega)
  have ko:=ol (c.js.getD i dd) J (XF c u sv st ds f4 i).1 (Pz J H.c _ _ _ _ _) (XF c u sv st ds f4 i).2;have kc:=Nh c false f4 ds i zB (λd hd=>(V d hd).bd) ((VH (XF c u sv st ds f4) u i).map wC) ((VI (XF c u sv st ds f4) sv i).map xY) (((UP st i).map iA).set i (iA (-1))) (Rh c.js (XF c u sv st ds f4) (ln c.js) i) (ln c.js) (ln c.js) (ln c.js) (ln c.js);have au:=z (XF c u sv st ds f4) i;have ax:=B (XF c u sv st ds f4) i;have av:=A i;have az:=O (XF c u sv st ds f4) i;rw[eg,ev,ek,ew];clear eg ev ek ew C G E M HD S hC z B A O hj H J;generalize (VH (XF c u sv st ds f4) u i).map wC=X,(VI (XF c u sv st ds f4) sv i).map xY=Y,(UP st i).map iA=Z',Rh c.js (XF c u sv st ds f4) (ln c.js) i=W,XF c u sv st ds f4 i=p at *;generalize RA (c.js.getD i dd) p.1 p.2=w at *;generalize gC (i:Int) ds=l,u.getD i dd=s,sv.getD i dd=v,st.getD i dd=k,c.js.getD i dd=j at *;have a6:(X.set i (wC p.1))[i]? =some (wC p.1):=zA6 zB;have a7:(Y.set i (xY p.2))[i]? =some (xY p.2):=zA6 zB
  (have gd:=kd;have gn:=ko;(repeat' (first|refine uD ?_|apply yZ|apply xM|intro hc|(apply zG;first|(refine vG 19 ?_;refine yE (BH (zL kc Z Z Z Z Z) Z Z) Z ?_))|fail))<;>clear gd gn)
  rfl
 ·(refine WW ?_)
  exact qM [2,1012,1013,1014,1015] Z Z Z Z
section
variable {P:Program} {K0:List Nat} {F:Fr K0} {m:Nat} {ops:Array Oper} {rest:List Oper} {fs:List FP} {tm:List (Nat×AV)} {h:List (Nat×wB)}
def LK {Q:List FP->St->Prop} (t K sz:Nat) (hv:zM tm t= .s (.slice none 0 0)) (u:(zE h K).isNone=true) (z:Nat.ble 1 sz=true) (h1:yQ P F m ops false rest ⟨(t,.ref K 0 0)::tm,(K,.arr sz [] true)::h⟩ fs Q):yQ P F m ops false rest ⟨tm,h⟩ fs Q:=
 ⟨λa w R=>h1.run a w (wT.virt R t K sz hv u z)⟩
end
def wz (m:Ms) (h:VK m):zO 126 [yC m] [] (bA false) []:=by
 obtain⟨k,A,u,z⟩:=m;obtain⟨h1,h2⟩:=h;dsimp only at h1 h2;subst h1;have c:=bz h2;rw[show yC ⟨k,[],u,z⟩= .agg [iA k,zD yA [],zD iA u,zD yA z]from Z]at *; refine eM call126 λF hF=>?_
 exact lk c
def J5 (l:List Ms) (u:ln l<=1000000) (h:∀m∈l,VK m):zO 186 [zD yC l,.fn 126 []] [] (iA (-1)) []:=by
 have hl:=zA yC l;refine eM call186 λF hF=>?_
 refine WW ?_;refine zU (l) [] [] [0,1,7] [8,0,1,7] Z (λi ga T U=>⟨(8,iA i)::T,U⟩) (Lq ?_ ?_)
 .intro i ga x post hx hi;have A:=yI yC hx hi;have z:=zV hx hi;have c:=wz x (h x (yV hx));clear hx;refine zQ c ?_;rfl
 .exact lc
def vz (l:List Ms) (u:ln l<=1000000) (h:∀m∈l,VK m):zO 125 [zD yC l,.fn 126 []] [] (zD yC l) []:=by
 have c:=J5 l u h;have hl:=zA yC l;refine eM call125 λF hF=>?_
 exact lk c
def BJ (l:List Ms) (u:ln l<=1000000) (h:∀m∈l,VK m):zO 63 [zD yC l] [] (zD yC l) []:=by
 have c:=vz l u h;have hl:=zA yC l;refine eM call63 λF hF=>?_
 exact lk c
def Sk (y:Int):0<=dM y/\dM y<256:=by
 unfold dM;have e:IntKind.u8.wrap y=y % 256:=by simp[IntKind.wrap,IntKind.signed,IntKind.bits]
 rw[e];omega
def Rk {l:List Vw} (h:∀v∈l,Qb v):BY (UN l):=λx hx=>by
 unfold UN at hx;obtain⟨y,u,hx⟩:=zEm.1 hx;obtain⟨v,hv,rfl⟩:=zB0.1 u;have hb:=h v hv;have hc:=MY hb.c (ln v.co) (zAg _) hb.n;have z:=dN (ln v.co) hb.n;have hs:=M3 (n:=vL v.co (ln v.co)) hc.1 zB;unfold A7 at hx;simp only[zC0,zCv,zBv,zB0]at hx
 rcases hx with rfl|rfl|rfl|⟨y,_,rfl⟩
 .unfold DZ
  split<;>split<;>omega
 .omega
 all_goals exact Sk _
def uz (l:List Rq) (v:List Vw) (f4:Int) (n:Nat):BY (PB l v f4 n):=λx hx=>by
 unfold PB at hx;obtain⟨i,_,rfl⟩:=zB0.1 hx;unfold Re;split
 .have:=Se ((l.getD (i/3) dd).legs.getD (i % 3) dd) v f4;omega
 .omega
theorem Qk (d:xP) (A:0<=d.rg.ag.req/\d.rg.ag.req<=4) (v:List Vw) (f4:Int) (B:0<=f4) (C:f4<=1073741824) (z:ln v<=4) (hb:∀w∈v,Qb w):VK (OK d v f4):=by
 have h1:=aI hb;have h2:=cV [f4];have u:(PB d.rq v f4 (d.rg.ag.req.toNat*3)).length=d.rg.ag.req.toNat*3:=by simp[PB]
 refine⟨rfl,by dsimp only[OK,Cr];omega,.cons zB .nil,by simp[OK,Cr],?_,.inl Z,.inl ⟨rfl,rfl⟩,?_⟩
 .intro x hx
  rcases zA5.1 hx with hx|hx
  .exact Rk hb x hx
  .exact uz _ _ _ _ x hx
 .show(([f4].map gN).flatten).length+1+(UN v++PB d.rq v f4 (d.rg.ag.req.toNat*3)).length<=200
  grind
def SY (f4:Int) (v:List Vw):Ms:=⟨21,[],[f4],UN v⟩
def qz (v:List Vw) (f4:Int) (z:0<=f4) (A:f4<=1073741824) (u:ln v<=4) (hb:∀w∈v,Qb w):VK (SY f4 v):=by
 have h1:=aI hb;have h2:=cV [f4];refine⟨rfl,by dsimp only[SY];omega,.cons zB .nil,by simp[SY],Rk hb,.inl Z,.inl ⟨rfl,rfl⟩,?_⟩
 grind [VK,SY]
def jz (f4:Int) (v:List Vw) (u:ln v<=1000) (hb:∀w∈v,Qb w):zO 64 [iA f4,zD wZ v] [] (yC (SY f4 v)) []:=by
 have B:=mq v u hb;have A:=zA yA (UN v);refine eM call64 λF hF=>?_
 refine zQ B ?_;refine zH [] Z Z ?_ Z;exact zAv (λz=>AV.agg [iA 21,AV.sl false [],AV.sl false [iA f4],AV.sl false z]) zAb
def dA (e:En):List Int:=[e.ag,e.ki,e.co]
def Qh (f4:Int) (u:List En):Ms:=⟨18,[],f4::((u.take 16).map dA).flatten,[]⟩
theorem G5 (f4:Int) (O:0<=f4) (S:f4<=1073741824) (z:List En) (h:∀e∈z,Fk e):VK (Qh f4 z):=by
 have hl:(z.take 16).length<=16:=by rw[zAw];omega
 have A:∀e∈z.take 16,Fk e:=λe u=>h e (zB5 u)
 unfold Qh;generalize z.take 16=l at*
 have C:((l.map dA).flatten).length=3*ln l:=by
  clear A hl
  induction l with
  |nil=>rfl
  |cons e l B=>rw[zBk,zDb,zAh,B,zAm];show 3+_=_;omega
 have M:((((l.map dA).flatten).map gN).flatten).length<=4*ln l:=by
  clear C hl
  induction l with
  |nil=>simp
  |cons e l B=>
   have B:=B λx hx=>A x OT
   have u:=A e zW;have e1:=BP (n:=e.ag) (by have:=u.a;omega);have I:=D5 (n:=e.ki) (by have:=u.k;omega);have e3:=BP (n:=e.co) (by have:=u.c;omega);rw[zBk,zDb,zAf,zD2,zAh,zAm]
   grind [VK,Qh,dA]
 have G:=(fD f4).2;refine⟨rfl,by dsimp only;omega,?_,by dsimp only;rw[zAm];omega,λx hx=>(by cases hx),.inr Z,.inr ⟨.inr Z,(ln l:Int),?_,zB,by show(0:Int)<=_;omega,by show _<=(16:Int);omega⟩,?_⟩
 .refine .cons zB ?_;intro x hx;obtain⟨y,E,hx⟩:=zEm.1 hx;obtain⟨e,u,rfl⟩:=zB0.1 E;have hk:=A e u;have h1:=hk.a;have h2:=hk.k;have L:=hk.c
  grind [VK,Qh,dA]
 .show((f4::(l.map dA).flatten).length:Int)=1+3*(ln l:Int)
  grind
 all_goals grind
def df (d:xP) (z:List Vw) (f4:Int) (k:Nat) (R:List (List Ms)) (u:List En):List Ms:=(R.getD k []++[OK d z f4])++(if d.au.getD k dd=true then [Qh f4 u]else [])
def wx (d:xP) (B:0<=d.rg.ag.req/\d.rg.ag.req<=4) (v:List Vw) (f4:Int) (C:0<=f4) (E:f4<=1073741824) (A:ln v<=4) (hb:∀w∈v,Qb w) (k:Nat) (R:List (List Ms)) (z:∀l∈R,ln l<=1000/\∀m∈l,VK m) (hk:k<ln R) (u:List En) (h:∀e∈u,Fk e):(df d v f4 k R u).length<=1002/\∀m∈df d v f4 k R u,VK m:=by grind [VK,df,List.getElem?_eq_getElem,List.getElem_mem,List.length_append,List.length_cons,List.length_nil,List.mem_singleton,Qk,G5]
def d8 (u:List En):u.take (min ((u.map kW).length:Int) 16).toNat=u.take 16:=by grind [kW,List.length_map,List.take_of_length_le]
theorem Gs (y:Cy) (n0:0<=y.f4) (n1:y.f4<=1073741824) (a k s:Nat) (ha:a<ln y.ds) (hd:cN (y.ds.getD a dd)) (W:0<=(y.ds.getD a dd).rg.ag.req/\(y.ds.getD a dd).rg.ag.req<=4) (hn:ln y.vw<=4) (hb:∀w∈y.vw,Qb w) (hk:k<(y.ds.getD a dd).au.length)
  (R:List (List Ms)) (O:∀l∈R,ln l<=1000/\∀m∈l,VK m) (A:k<ln R) (u:List En) (he:∀e∈u,Fk e) (ac:ln u<=100000):
  zO 62 [uB y,Kk a k s,zD jO R,zD kW u] [] (zD yC (df (y.ds.getD a dd) y.vw y.f4 k R u)) []:=by
 have ht:=wx _ W y.vw y.f4 n0 n1 hn hb k R O A u he;have z:=BJ (df (y.ds.getD a dd) y.vw y.f4 k R u) zB ht.2;have C:=Yq (y.ds.getD a dd) hd W y.vw y.f4 zB hb;have L:=zJ zK y.ds a ha;have B:=zJ jO R k A;have a2:=zJ bA (y.ds.getD a dd).au k hk;have ax:=zA jO R;have ap:=zA kW u;have ar:=zA bA (y.ds.getD a dd).au;have G:=(O _ (zY R k A)).1;have eR:R.getD k dd=R.getD k []:=rfl;unfold uB bD;unfold df at z⊢;rw[eR]at B G;generalize OK (y.ds.getD a dd) y.vw y.f4=st,R.getD k []=E at *;have av:=zA yC E;unfold jO zD at B;generalize y.ds.getD a dd=d at *;unfold zK xC at L C;refine eM call62 λF hF=>?_
 refine zQ C ?_;refine LK 25 1001 4 Z Z Z ?_;generalize d.au.getD k dd=b at *;cases b
 .have e1:zD yC ((E++[st])++if false=true then [Qh y.f4 u]else [])= .sl false (E.map yC++[yC st]):=by
   rw[Of zAp,zA2];unfold zD;rw[zAf];rfl
  rw[e1]at z⊢
  (have gd:=C;(repeat' (first|refine uD ?_|apply yZ|apply xM|intro hc|(apply zG;first|refine SM ?_)|fail))<;>clear gd)
  (refine vG 63 ?_;refine kL [] [85] Z ?_;(conv=>whnf);(try simp only[zAu,zAb]);first|refine yE (zL (z) Z Z Z Z Z) Z ?_|refine qB (zL (z) Z Z Z Z Z) Z Z Z ?_|refine ZR (zL (z) Z Z Z Z Z) Z Z Z ?_)
  (repeat' (first|refine uD ?_|apply yZ|apply xM|intro hc|(apply zG;first|refine SM ?_)|fail))
  exact zI
 .have e1:zD yC ((E++[st])++if true=true then [Qh y.f4 u]else [])= .sl false ((E.map yC++[yC st])++[yC (Qh y.f4 u)]):=by
   rw[Os Z];unfold zD;rw[zAf,zAf];rfl
  rw[e1]at z⊢
  (have gd:=C;(repeat' (first|refine uD ?_|apply yZ|apply xM|intro hc|(apply zG;first|refine SM ?_)|fail))<;>clear gd)
  rw[d8];have S:(u.take 16).length<=16:=by rw[zAw];omega
  have V:=zA kW (u.take 16);rw[show yC (Qh y.f4 u)= .agg [iA 18,.sl false [],.sl false ((y.f4::((u.take 16).map dA).flatten).map iA),.sl false []]from Z]at *; generalize u.take 16=M at *;refine uG 57 Z ?_;refine zU (M) [11,57,1001] [1001] [10,11,63,64] [65,10,11,63,64] Z (λi ga T U=>⟨(65,iA i)::T,(11,.box [iA 18,.s (.slice none 0 0),.ref 57 0 ((y.f4::(ga.map dA).flatten).map iA).length,.s (.slice none 0 0)])::(57,.arr 1 ((y.f4::(ga.map dA).flatten).map iA) true)::U⟩) (Lq ?_ ?_)
  .intro i ga x post hx hi;have Y:=yI kW hx hi;have az:=zV hx hi
   have a1:((ga.map dA).flatten).length=3*ln ga:=by
    clear hx hi Y
    induction ga with
    |nil=>rfl
    |cons e l ih=>rw[zBk,zDb,zAh,ih,zAm];show 3+_=_;omega
   have I:=zA iA (y.f4::(ga.map dA).flatten);rw[zAm]at I;rw[zAf,zD2];rw[show(y.f4::((ga.map dA).flatten++([x].map dA).flatten)).map iA=(y.f4::(ga.map dA).flatten).map iA++[iA x.ag,iA x.ki,iA x.co] by simp[dA]];unfold kW MZ at Y;clear hx z C e1;generalize (y.f4::(ga.map dA).flatten).map iA=X at *;refine WW ?_;rfl
  .refine wJ [11,1001] [10,11,63,64,65] Z ?_
   (conv=>whnf)
   simp only[zAu,zAb]
   (repeat' (first|refine dZ ?_|apply yZ|apply xM|intro hc|(apply zG;first|(apply yR;refine QF 82 Z Z Z ?_;refine kD tok Z Z ?_))|refine SB ?_|fail))
   (refine vG 63 ?_;refine kL [] [85] Z ?_;(conv=>whnf);(try simp only[zAu,zAb]);first|refine yE (zL (z) Z Z Z Z Z) Z ?_|refine qB (zL (z) Z Z Z Z Z) Z Z Z ?_|refine ZR (zL (z) Z Z Z Z Z) Z Z Z ?_)
   (repeat' (first|refine uD ?_|apply yZ|apply xM|intro hc|(apply zG;first|refine SM ?_)|fail))
   exact zI
structure CH (y:Cy):Prop where
 v:HT y.c
 rf:y.rf=false
 n0:0<=y.f4
 dl:y.ds.length=y.c.ags.length
 di:∀d∈y.ds,qR y.c d
 dg:∀a,a<y.ds.length->(y.ds.getD a default).rg.ag=y.c.ags.getD a default
 sc:∀d∈y.ds,HQ y.f4 d.rq
 gl:y.sg.length=y.c.js.length
 sl:y.sv.length=y.c.js.length
 tl:y.st.length=y.c.js.length
 wl:y.vw.length=y.c.js.length
 wb:∀w∈y.vw,Qb w
 j:∀k,k<y.c.js.length->JI (y.c.js.getD k default) (y.sg.getD k default) (y.sv.getD k default) y.f4
def BK [Inhabited α] {l:List α} {x:α} (h:x∈l):∃i,i<ln l/\l.getD i dd=x:=by
 obtain⟨i,hi,e⟩:=List.mem_iff_getElem.1 h;exact⟨i,hi,by rw[zAl,zA4 hi];exact e⟩
theorem CH.b (h:CH y):v5 y:=by
 have L:=h.v.a;have hj:=h.v.j;have h1:=h.dl;have h2:=h.gl;have B:=h.sl;have E:=h.tl;have G:=h.wl;refine⟨zB,λd hd=>(h.di d hd).bd,zB,λs hs=>?_,zB,λs hs=>?_,zB,zB,λw A=>?_⟩
 .obtain⟨i,hi,rfl⟩:=BK hs;have J:=h.v.jv _ (zY y.c.js i zB);have C:=(h.j i zB).c;have u:=J.n;have z:=C.n;have I:=C.m;omega
 .obtain⟨i,hi,rfl⟩:=BK hs;have J:=h.v.jv _ (zY y.c.js i zB);have u:=J.n;have z:=(h.j i zB).n;omega
 .have:=h.wb w A;have u:=this.n;have z:=this.m;omega
def aK (c:Cf) (z:List Sg) (u:List Int):List Sg:=u.foldl (λs x=>s.set x.toNat (Nr (c.js.getD x.toNat dd) (s.getD x.toNat dd))) z
def BL (c:Cf) (z:List Sg) (u:List Int) (x:Int):aK c z (u++[x])=(aK c z u).set x.toNat (Nr (c.js.getD x.toNat dd) ((aK c z u).getD x.toNat dd)):=by grind [aK,Nr]
def HM [Inhabited α] (l:List α) (i j:Nat) (x:α) (hj:j<ln l):(l.set i x).getD j dd=if i=j then x else l.getD j dd:=by grind
theorem HN (hv:HT c) {sv:List Sv} :∀(z:List Int) (u:List Sg),ln u=ln c.js->(∀k,k<ln c.js->JI (c.js.getD k dd) (u.getD k dd) (sv.getD k dd) f4)->(aK c u z).length=ln c.js/\∀k,k<ln c.js->JI (c.js.getD k dd) ((aK c u z).getD k dd) (sv.getD k dd) f4
 | [],u,hl,h=>⟨hl,h⟩
 |x::z,u,hl,h=>by
  have e:aK c u (x::z)=aK c (u.set x.toNat (Nr (c.js.getD x.toNat dd) (u.getD x.toNat dd))) z:=rfl;rw[e];refine HN hv z _ (by rw[zBp];exact hl) λk hk=>?_
  rw[HM _ _ _ _ zB];split
  .rename_i hx;rw[hx];have H:=h k hk;exact⟨X8 (hv.jv _ (zY c.js k hk)) H.c,H.n,H.e,H.g⟩
  .exact h k hk
theorem Fs (D:Nat->Sg×Sv) (l:List Sg) (n k:Nat) (h1:k<n) (h2:k<ln l):(VH D l n).getD k dd=(D k).1:=by grind [VH,vZ]
theorem Es (D:Nat->Sg×Sv) (l:List Sv) (n k:Nat) (h1:k<n) (h2:k<ln l):(VI D l n).getD k dd=(D k).2:=by grind [VI,vZ]
def CI (u:List Jn) (D:Nat->Sg×Sv) (n:Nat):List Vw:=(ny n).map λk=>RA (u.getD k dd) (D k).1 (D k).2
def Cs (u:List Jn) (D:Nat->Sg×Sv) (n:Nat):Rh u D n n=(CI u D n).map wZ:=by simp_all [Rh,CI,wZ]
def dX (y:Cy) (R:Nat->DR):Nat->Sg×Sv:=XF y.c (aK y.c y.sg (cH R (ln y.ds))) y.sv y.st (cF (y.f4+1) y.ds R (ln y.ds)) (y.f4+1)
def kU (y:Cy) (R:Nat->DR):Cy:=
 ⟨y.c,false,y.f4+1,cF (y.f4+1) y.ds R (ln y.ds),VH (dX y R) (aK y.c y.sg (cH R (ln y.ds))) (ln y.c.js),VI (dX y R) y.sv (ln y.c.js),UP y.st (ln y.c.js),CI y.c.js (dX y R) (ln y.c.js)⟩
def Bs (y:Cy) (u:List In) (R:Nat->DR):Prop:=∀a,a<ln y.ds->I7 y.c (y.f4+1) (VA (y.ds.getD a dd) (y.f4+1)) (BG y.c u a) (R a)/\zO 119 [wO y.c,zK (VA (y.ds.getD a dd) (y.f4+1)),zD qL (BG y.c u a),iA (y.f4+1)] [] (Ck (R a)) []/\zO 156 [wO y.c,zK (VA (y.ds.getD a dd) (y.f4+1)),zD qL (BG y.c u a),iA (y.f4+1)] [] (Ck (R a)) []
def ZS {a:Nat} (u:a<ln ds):(cF f4 ds R (ln ds)).getD a dd=(R a).d:=by grind [cF]
def cR (f4:Int) (ds:List xP) (R:Nat->DR):(cF f4 ds R (ln ds)).length=ln ds:=by simp[cF]
def VJ {d:xP} (h:d∈cF f4 ds R (ln ds)):∃a,a<ln ds/\d=(R a).d:=by grind [cF]
def Qc (l:List Rq) (f4:Int):TA l (IY l f4):=TA.filter _ _
noncomputable def zt (y:Cy) (u:List In) (a:Nat):DR:=XH y.c (VA (y.ds.getD a dd) (y.f4+1)) (BG y.c u a) (y.f4+1)
def F5 (h:CH y) (L:y.f4<1000000000) {u:List In} (G:(ln u:Int)=jI y.c.ags (ln y.c.ags)) (A:∀i∈u,Vr i):Bs y u (zt y u):=λa C=>by
 have B:=h.di _ (zY y.ds a C);obtain⟨E,I,_⟩:=i7 B (y.f4+1);have z:=B.au;rw[h.dg a C]at z;have hs:=(h.v.av _ (zY y.c.ags a (by have:=h.dl;omega))).e;have M:=h.n0
 exact Kh y.c _ E (BG y.c u a) (by unfold BG HL;rw[zAa,zBo];show _=(y.ds.getD a dd).au.length;omega) (λi hi=>by
  unfold BG HL at hi;obtain⟨k,_,rfl⟩:=zB0.1 hi;by_cases hk:(jI y.c.ags a).toNat+k<ln u
  .exact A _ (zY u _ hk)
  .rw[zAl,zB2 zB]
   exact⟨zAr _,λx hx=>by cases hx⟩) (y.f4+1) zB zB
def Pk (h:CH y) {B:List In} (A:Bs y B R):CH (kU y R):=by
 have M:=h.n0;have G:=HN h.v (sv:=y.sv) (f4:=y.f4) (cH R (ln y.ds)) y.sg h.gl h.j
 have L:∀k,k<ln y.c.js->JI (y.c.js.getD k dd) (dX y R k).1 (dX y R k).2 (y.f4+1):=λk hk=>by
  have J:=h.v.jv _ (zY y.c.js k hk);have H:=G.2 k hk;exact f8 J zB ⟨H.c,H.n,λe E=>by have:=H.e e E;omega,H.g⟩ _ _ _
 have I:=h.sl;refine⟨h.v,rfl,by show 0<=y.f4+1;omega,(cR ..).trans h.dl,λd hd=>?_,λa z=>?_,λd hd=>?_,?_,?_,?_,?_,λw C=>?_,λk hk=>?_⟩
 .obtain⟨a,z,rfl⟩:=VJ hd;exact(A a z).1.i
 .have u:a<ln y.ds:=by rw[<-cR (y.f4+1) y.ds R];exact z
  show((cF (y.f4+1) y.ds R (ln y.ds)).getD a dd).rg.ag=_
  rw[ZS u,(A a u).1.ag];exact h.dg a u
 .obtain⟨a,z,rfl⟩:=VJ hd;refine(A a z).1.sc ?_;exact HQ.of zB ((h.sc _ (zY y.ds a z)).mono zB) (Qc _ _)
 .grind [Bs,kU,VH,wR]
 .grind [Bs,kU,VI,wR]
 .show(UP _ _).length=_
  unfold UP;rw[wR];exact h.tl
 .grind [Bs,kU,CI]
 .unfold kU CI at C;obtain⟨k,hk,rfl⟩:=zB0.1 C;exact qx _ (h.v.jv _ (zY y.c.js k (zA3.1 hk))) _ _
 all_goals grind [Bs,kU,VH,dX,aK,cH,VI,Fs,Es]
def BM (y:Cy) (u:List In) (R:Nat->DR) (n a k:Nat):List Ms:=if(u.getD ((jI y.c.ags a).toNat+k) dd).opn=true then df (y.ds.getD a dd) y.vw y.f4 k (R a).R (UD R n)else []
def LL (T:Nat->Nat->List Ms) (a k:Nat):List (List Ms):=(ny k).map (T a)
def ND (c:Cf) (T:Nat->Nat->List Ms) (n:Nat):List (List Ms):=((ny n).map λa=>LL T a (c.ags.getD a dd).ses.toNat).flatten
def B4 (T:List (List Ms)) (f:Ms):AV:= .agg [zD jO T,zD yC [f]]
def BN (T:Nat->Nat->List Ms) (a k:Nat):LL T a (k+1)=LL T a k++[T a k]:=by simp[LL,zCf]
def RI (c:Cf) (T:Nat->Nat->List Ms) (n:Nat):ND c T (n+1)=ND c T n++LL T n (c.ags.getD n dd).ses.toNat:=by simp[ND,zCf]
theorem RJ (u:lf c.ags) (T:Nat->Nat->List Ms):∀n,n<=ln c.ags->((ND c T n).length:Int)=jI c.ags n
 |0,_=>rfl
 |n+1,z=>by
  have A:=RJ u T n zB;have:=u.at (i:=n) zB;rw[RI,zAh]
  show _=jI c.ags n+(c.ags.getD n dd).ses
  have:(LL T n (c.ags.getD n dd).ses.toNat).length=(c.ags.getD n dd).ses.toNat:=by simp[LL]
  omega
theorem MA (u:lf c.ags) (T:Nat->Nat->List Ms):∀n,n<=ln c.ags->∀s,s<(ND c T n).length->∃a k:Nat,a<n/\(k:Int)<(c.ags.getD a dd).ses/\s=(jI c.ags a).toNat+k/\(ND c T n).getD s []=T a k
 |0,_,s,hs=>by cases hs
 | n+1,B,s,hs=>by
  have hl:=RJ u T n zB;rw[RI]at hs⊢;by_cases h:s<(ND c T n).length
  .obtain⟨a,k,h1,h2,z,A⟩:=MA u T n zB s h;refine⟨a,k,zB,h2,z,?_⟩;rw[zAl,zBg h,<-zAl];exact A
  .rw[zAh]at hs;have C:(LL T n (c.ags.getD n dd).ses.toNat).length=(c.ags.getD n dd).ses.toNat:=by simp[LL]
   refine⟨n,s-(ND c T n).length,zB,zB,zB,?_⟩;rw[zAl,zBc zB];unfold LL;rw[zAi,zBu zB];rfl
theorem xR.frz {f:Nat} {args:List AV} {r:AV} {h1:List (Nat×wB)} {I:AV} {z:List (Nat×wB)} (h:xR P f args [] r h1) (K:List Nat) (O:YY (wQ K (zE h1) r)=I) (hh:vH K (zE h1)=z) (C:uN z=true):xR P f args [] I z:=
 ⟨h.able,λk=>qW C,λX w β u hc H M=>(h.sim X w β u hc H M).mono λe w' ⟨c,β',A,G,hv⟩=>by
  obtain⟨L,E⟩:=G.hok.restr K;refine⟨c,λk=>if k∈K then β' k else [],A,⟨G.size,G.keep,λk b n B=>?_,G.bs,λk e A=>by simp[zE]at A,by rw[<-hh];exact L,G.os,G.tape,G.output⟩,?_⟩
  .split at B
   .exact G.own k b n B
   .simp at B
  .rw[<-hh,<-O]
   exact(E _ _ hv).wk⟩
