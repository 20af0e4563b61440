/- Part 28. -/
import Derived.Test.YteajjdidebfcjaaGreatR27
namespace Go.Proofs.YteajjdidebfcjaaGreat
namespace Av
open Tryz
set_option linter.all false
set_option maxRecDepth 4000
set_option maxHeartbeats 8000000
section
variable {P:Program} {K0:List Nat} {F:Fr K0} {m:Nat} {ops:Array Oper} {rest:List Oper} {fs:List FP} {tm:List (Nat×AV)} {h:List (Nat×xN)}
def AO {Q:List FP->St->Prop} (t K sz:Nat) (hv:zG tm t= .s (.slice none 0 0)) (hK:(zC h K).isNone=true) (hp:Nat.ble 1 sz=true) (h1:zX P F m ops false rest ⟨(t,.ref K 0 0)::tm,(K,.arr sz [] true)::h⟩ fs Q):zX P F m ops false rest ⟨tm,h⟩ fs Q:=
 ⟨λa w R=>h1.run a w (xV.virt R t K sz hv hK hp)⟩
end
def zTj (m:Ms) (h:OW m):zN 194 [yB m] [] (bA false) []:=by
 obtain⟨k,tk,ar,da⟩:=m;obtain⟨h1,h2⟩:=h;dsimp only at h1 h2;subst h1;have c:=zTq h2;rw[show yB ⟨k,[],ar,da⟩= .agg [iA k,zD yA [],zD iA ar,zD yA da]from Z]at *; refine eM call194 λF hF=>?_
 refine zV c ?_;exact zJ
def zXd (l:List Ms) (hl9:l.length<=1000000) (h:∀m∈l,OW m):zN 216 [zD yB l,.fn 194 []] [] (iA (-1)) []:=by
 have hl:=zA yB l;refine eM call216 λF hF=>?_
 refine WW ?_;refine yL (l) [] [] [0,1,7] [8,0,1,7] Z (λi pre T U=>⟨(8,iA i)::T,U⟩) ?_;(conv=>whnf);refine⟨by rfl,?_,?_⟩
 ·intro i pre x post hx hi;have hy:=xI yB hx hi;have hlt:=yN hx hi;have c:=zTj x (h x (wR hx));clear hx;refine zV c ?_;rfl
 ·(refine WW ?_)
  exact zJ
def zTk (l:List Ms) (hl9:l.length<=1000000) (h:∀m∈l,OW m):zN 193 [zD yB l,.fn 194 []] [] (zD yB l) []:=by
 have c:=zXd l hl9 h;have hl:=zA yB l;refine eM call193 λF hF=>?_
 refine zV c ?_;exact zJ
def FG (l:List Ms) (hl9:l.length<=1000000) (h:∀m∈l,OW m):zN 158 [zD yB l] [] (zD yB l) []:=by
 have c:=zTk l hl9 h;have hl:=zA yB l;refine eM call158 λF hF=>?_
 refine zV c ?_;exact zJ
def zHg (y:Int):0<=YL y/\YL y<256:=by
 unfold YL;have e:IntKind.u8.wrap y=y % 256:=by simp[IntKind.wrap,IntKind.signed,IntKind.bits]
 rw[e];omega
def zHh {l:List Vw} (h:∀v∈l,VwB v):BY (NC l):=λx hx=>by
 unfold NC at hx;obtain⟨y,hy,hx⟩:=yCn.1 hx;obtain⟨v,hv,rfl⟩:=yA5.1 hy;have hb:=h v hv;have hc:=JW hb.c v.co.length (yAb _) hb.n;have hp:=YM v.co.length hb.n;have hs:=zYb (n:=qS v.co v.co.length) hc.1 zB;unfold vwF at hx;simp only[yCu,yCo,yBd,yA5]at hx
 rcases hx with rfl|rfl|rfl|⟨y,_,rfl⟩
 ·unfold hdF
  split<;>split<;>omega
 ·omega
 ·exact zHg _
 ·exact zHg _
def zTl (l:List Rq) (v:List Vw) (now:Int) (n:Nat):BY (cqL l v now n):=λx hx=>by
 unfold cqL at hx;obtain⟨i,_,rfl⟩:=yA5.1 hx;unfold cqF;split
 ·have:=zJ3 ((l.getD (i/3) default).legs.getD (i % 3) default) v now;omega
 ·omega
def zR7 (d:yY) (hq:0<=d.rg.ag.req/\d.rg.ag.req<=4) (v:List Vw) (now:Int) (n0:0<=now) (n1:now<=1073741824) (hn:v.length<=4) (hb:∀w∈v,VwB w):OW (JN d v now):=by
 have h1:=WB hb;have h2:=fJ [now];have h3:(cqL d.rq v now (d.rg.ag.req.toNat*3)).length=d.rg.ag.req.toNat*3:=by simp[cqL]
 refine⟨rfl,by dsimp only[JN,stM];omega,.cons zB .nil,by simp[JN,stM],?_,.inl Z,.inl ⟨rfl,rfl⟩,?_⟩
 ·intro x hx
  rcases yAw.1 hx with hx|hx
  ·exact zHh hb x hx
  ·exact zTl _ _ _ _ x hx
 ·show(([now].map gV).flatten).length+1+(NC v++cqL d.rq v now (d.rg.ag.req.toNat*3)).length<=200
  rw[yAd];simp only[yAl,yBr]at h2;omega
def NJ (now:Int) (v:List Vw):Ms:=⟨21,[],[now],NC v⟩
def zXe (v:List Vw) (now:Int) (n0:0<=now) (n1:now<=1073741824) (hn:v.length<=4) (hb:∀w∈v,VwB w):OW (NJ now v):=by
 have h1:=WB hb;have h2:=fJ [now];refine⟨rfl,by dsimp only[NJ];omega,.cons zB .nil,by simp[NJ],zHh hb,.inl Z,.inl ⟨rfl,rfl⟩,?_⟩
 show(([now].map gV).flatten).length+1+(NC v).length<=200
 simp only[yAl,yBr]at h2;omega
def zTm (now:Int) (v:List Vw) (hn:v.length<=1000) (hb:∀w∈v,VwB w):zN 159 [iA now,zD vO v] [] (yB (NJ now v)) []:=by
 have kr:=zJ2 v hn hb;have hrl:=zA yA (NC v);refine eM call159 λF hF=>?_
 refine zV kr ?_;refine zK [] Z Z ?_ Z;exact yA6 (λz=>AV.agg [iA 21,AV.sl false [],AV.sl false [iA now],AV.sl false z]) yAf
def bL (e:En):List Int:=[e.ag,e.ki,e.co]
def trM (now:Int) (en:List En):Ms:=⟨18,[],now::((en.take 16).map bL).flatten,[]⟩
def zZe (now:Int) (n0:0<=now) (n1:now<=1073741824) (en:List En) (h:∀e∈en,EnK e):OW (trM now en):=by
 have hl:(en.take 16).length<=16:=by rw[yA3];omega
 have hm:∀e∈en.take 16,EnK e:=λe he=>h e (yCc he)
 unfold trM;generalize en.take 16=l at*
 have h3:((l.map bL).flatten).length=3*l.length:=by
  clear hm hl
  induction l with
  |nil=>rfl
  |cons e l ih=>rw[yBb,yCp,yAd,ih,yAl];show 3+_=_;omega
 have hz:((((l.map bL).flatten).map gV).flatten).length<=4*l.length:=by
  clear h3 hl
  induction l with
  |nil=>simp
  |cons e l ih=>
   have ih:=ih λx hx=>hm x MD
   have he:=hm e zU;have e1:=FK (n:=e.ag) (by have:=he.a;omega);have e2:=zXi (n:=e.ki) (by have:=he.k;omega);have e3:=FK (n:=e.co) (by have:=he.c;omega);rw[yBb,yCp,yAi,yFp,yAd,yAl];simp only[bL,yBb,yCz,yCp,List.flatten_nil,yAd,yBc];omega
 have e0:=(jK now).2;refine⟨rfl,by dsimp only;omega,?_,by dsimp only;rw[yAl];omega,λx hx=>(by cases hx),.inr Z,.inr ⟨.inr Z,(l.length:Int),?_,zB,by show(0:Int)<=_;omega,by show _<=(16:Int);omega⟩,?_⟩
 ·refine .cons zB ?_;intro x hx;obtain⟨y,hy,hx⟩:=yCn.1 hx;obtain⟨e,he,rfl⟩:=yA5.1 hy;have hk:=hm e he;have h1:=hk.a;have h2:=hk.k;have h4:=hk.c;simp only[bL,yBd,yDo,yEy]at hx;omega
 ·show((now::(l.map bL).flatten).length:Int)=1+3*(l.length:Int)
  rw[yAl];omega
 ·show(((now::(l.map bL).flatten).map gV).flatten).length+1+0<=200
  rw[yBb,yCp,yAd];omega
def tlF (d:yY) (vw:List Vw) (now:Int) (k:Nat) (R:List (List Ms)) (en:List En):List Ms:=(R.getD k []++[JN d vw now])++(if d.au.getD k default=true then [trM now en]else [])
def zR8 (d:yY) (hq:0<=d.rg.ag.req/\d.rg.ag.req<=4) (v:List Vw) (now:Int) (n0:0<=now) (n1:now<=1073741824) (hn:v.length<=4) (hb:∀w∈v,VwB w) (k:Nat) (R:List (List Ms)) (hR:∀l∈R,l.length<=1000/\∀m∈l,OW m) (hk:k<R.length) (en:List En) (h:∀e∈en,EnK e):(tlF d v now k R en).length<=1002/\∀m∈tlF d v now k R en,OW m:=by
 have hr:R.getD k []∈R:=by
  rw[yAg,yAn hk];exact yCv _
 obtain⟨h1,h2⟩:=hR _ hr;unfold tlF;refine⟨?_,λm hm=>?_⟩
 ·rw[yAd,yAd];split
  ·simp only[yAl,yBr];omega
  ·simp only[yAl,yBr];omega
 ·rcases yAw.1 hm with hm|hm
  ·rcases yAw.1 hm with hm|hm
   ·exact h2 m hm
   ·rw[yA8.1 hm];exact zR7 d hq v now n0 n1 hn hb
  ·split at hm
   ·rw[yA8.1 hm];exact zZe now n0 n1 en h
   ·cases hm
def zZf (en:List En):en.take (min ((en.map jP).length:Int) 16).toNat=en.take 16:=by
 rw[zZ9];by_cases h:en.length<=16
 ·rw[yAj zB,yAj zB]
 ·congr 1
  omega
theorem zN3 (y:Cy) (n0:0<=y.now) (n1:y.now<=1073741824) (a k s:Nat) (ha:a<y.ds.length) (hd:fI (y.ds.getD a default)) (hq:0<=(y.ds.getD a default).rg.ag.req/\(y.ds.getD a default).rg.ag.req<=4) (hn:y.vw.length<=4) (hb:∀w∈y.vw,VwB w) (hk:k<(y.ds.getD a default).au.length)
  (R:List (List Ms)) (hR:∀l∈R,l.length<=1000/\∀m∈l,OW m) (hkR:k<R.length) (en:List En) (he:∀e∈en,EnK e) (hel:en.length<=100000):
  zN 157 [uC y,plA a k s,zD bZ R,zD jP en] [] (zD yB (tlF (y.ds.getD a default) y.vw y.now k R en)) []:=by
 have ht:=zR8 _ hq y.vw y.now n0 n1 hn hb k R hR hkR en he;have kv:=FG (tlF (y.ds.getD a default) y.vw y.now k R en) zB ht.2;have ks:=zJk (y.ds.getD a default) hd hq y.vw y.now zB hb;have hyd:=zM zI y.ds a ha;have hyr:=zM bZ R k hkR;have hyk:=zM bA (y.ds.getD a default).au k hk;have hlr:=zA bZ R;have hle:=zA jP en;have hlk:=zA bA (y.ds.getD a default).au;have hR1:=(hR _ (zP R k hkR)).1;have eR:R.getD k default=R.getD k []:=rfl;unfold uC bP;unfold tlF at kv⊢;rw[eR]at hyr hR1;generalize JN (y.ds.getD a default) y.vw y.now=st at *;generalize R.getD k []=rp at *;have hlp:=zA yB rp;unfold bZ zD at hyr;generalize y.ds.getD a default=d at *;unfold zI wC at hyd ks;refine eM call157 λF hF=>?_
 refine zV ks ?_;refine AO 25 1001 4 Z Z Z ?_;generalize d.au.getD k default=b at *;cases b
 ·have e1:zD yB ((rp++[st])++if false=true then [trM y.now en]else [])= .sl false (rp.map yB++[yB st]):=by
   rw[zZ7 yAs,yBc];unfold zD;rw[yAi];rfl
  rw[e1]at kv⊢
  (have zc1:=ks;(repeat' (first|refine uL ?_|((first|apply xM|apply wA)<;>intro hc)|(refine zE ?_;first|refine SM ?_)|fail))<;>clear zc1)
  (refine vS 158 ?_;refine kJ [] [85] Z ?_;(conv=>whnf);(try simp only[yA9,yAf]);first|refine wG (zH (kv) Z Z Z Z Z) Z ?_|refine uS (zH (kv) Z Z Z Z Z) Z Z Z ?_|refine ZU (zH (kv) Z Z Z Z Z) Z Z Z ?_)
  (repeat' (first|refine uL ?_|((first|apply xM|apply wA)<;>intro hc)|(refine zE ?_;first|refine SM ?_)|fail))
  exact zJ
 ·have e1:zD yB ((rp++[st])++if true=true then [trM y.now en]else [])= .sl false ((rp.map yB++[yB st])++[yB (trM y.now en)]):=by
   rw[zZ8 Z];unfold zD;rw[yAi,yAi];rfl
  rw[e1]at kv⊢
  (have zc1:=ks;(repeat' (first|refine uL ?_|((first|apply xM|apply wA)<;>intro hc)|(refine zE ?_;first|refine SM ?_)|fail))<;>clear zc1)
  rw[zZf];have hl16:(en.take 16).length<=16:=by rw[yA3];omega
  have hl17:=zA jP (en.take 16);rw[show yB (trM y.now en)= .agg [iA 18,.sl false [],.sl false ((y.now::((en.take 16).map bL).flatten).map iA),.sl false []]from Z]at *; generalize en.take 16=l16 at *;refine qB 57 Z ?_;refine yL (l16) [11,57,1001] [1001] [10,11,63,64] [65,10,11,63,64] Z (λi pre T U=>⟨(65,iA i)::T,(11,.box [iA 18,.s (.slice none 0 0),.ref 57 0 ((y.now::(pre.map bL).flatten).map iA).length,.s (.slice none 0 0)])::(57,.arr 1 ((y.now::(pre.map bL).flatten).map iA) true)::U⟩) ?_;(conv=>whnf);refine⟨by rfl,?_,?_⟩
  ·intro i pre x post hx hi;have hy:=xI jP hx hi;have hlt:=yN hx hi
   have hpl:((pre.map bL).flatten).length=3*pre.length:=by
    clear hx hi hy
    induction pre with
    |nil=>rfl
    |cons e l ih=>rw[yBb,yCp,yAd,ih,yAl];show 3+_=_;omega
   have hpm:=zA iA (y.now::(pre.map bL).flatten);rw[yAl]at hpm;rw[yAi,yFp];rw[show(y.now::((pre.map bL).flatten++([x].map bL).flatten)).map iA=(y.now::(pre.map bL).flatten).map iA++[iA x.ag,iA x.ki,iA x.co] by simp[bL]];unfold jP MG at hy;clear hx kv ks e1;generalize (y.now::(pre.map bL).flatten).map iA=X at *;refine WW ?_;rfl
  ·refine qH [11,1001] [10,11,63,64,65] Z ?_
   (conv=>whnf)
   simp only[yA9,yAf]
   (repeat' (first|refine RP ?_|((first|apply xM|apply wA)<;>intro hc)|(refine zE ?_;first|(refine xB ?_;refine CP 82 Z Z Z ?_;refine gO tok Z Z ?_))|refine SB ?_|fail))
   (refine vS 158 ?_;refine kJ [] [85] Z ?_;(conv=>whnf);(try simp only[yA9,yAf]);first|refine wG (zH (kv) Z Z Z Z Z) Z ?_|refine uS (zH (kv) Z Z Z Z Z) Z Z Z ?_|refine ZU (zH (kv) Z Z Z Z Z) Z Z Z ?_)
   (repeat' (first|refine uL ?_|((first|apply xM|apply wA)<;>intro hc)|(refine zE ?_;first|refine SM ?_)|fail))
   exact zJ
structure XS (y:Cy):Prop where
 v:VT y.c
 rf:y.rf=false
 n0:0<=y.now
 dl:y.ds.length=y.c.ags.length
 di:∀d∈y.ds,uV y.c d
 dg:∀a,a<y.ds.length->(y.ds.getD a default).rg.ag=y.c.ags.getD a default
 sc:∀d∈y.ds,GE y.now d.rq
 gl:y.sg.length=y.c.js.length
 sl:y.sv.length=y.c.js.length
 tl:y.st.length=y.c.js.length
 wl:y.vw.length=y.c.js.length
 wb:∀w∈y.vw,VwB w
 j:∀k,k<y.c.js.length->JI (y.c.js.getD k default) (y.sg.getD k default) (y.sv.getD k default) y.now
def dL {α:Type} [Inhabited α] {l:List α} {x:α} (h:x∈l):∃i,i<l.length/\l.getD i default=x:=by
 obtain⟨i,hi,e⟩:=yDe.1 h;exact⟨i,hi,by rw[yAg,yAn hi];exact e⟩
theorem XS.b {y:Cy} (h:XS y):CyB y:=by
 have ha:=h.v.a;have hj:=h.v.j;have h1:=h.dl;have h2:=h.gl;have h3:=h.sl;have h4:=h.tl;have h5:=h.wl;refine⟨zB,λd hd=>(h.di d hd).bd,zB,λs hs=>?_,zB,λs hs=>?_,zB,zB,λw hw=>?_⟩
 ·obtain⟨i,hi,rfl⟩:=dL hs;have J:=h.v.jv _ (zP y.c.js i zB);have C:=(h.j i zB).c;have h6:=J.n;have h7:=C.n;have h8:=C.m;omega
 ·obtain⟨i,hi,rfl⟩:=dL hs;have J:=h.v.jv _ (zP y.c.js i zB);have h6:=J.n;have h7:=(h.j i zB).n;omega
 ·have:=h.wb w hw;have h6:=this.n;have h7:=this.m;omega
def XT (c:Cf) (sg:List Sg) (ks:List Int):List Sg:=ks.foldl (λs x=>s.set x.toNat (srF (c.js.getD x.toNat default) (s.getD x.toNat default))) sg
def zHi (c:Cf) (sg:List Sg) (ks:List Int) (x:Int):XT c sg (ks++[x])=(XT c sg ks).set x.toNat (srF (c.js.getD x.toNat default) ((XT c sg ks).getD x.toNat default)):=by
 unfold XT;rw[yEq];rfl
def UC {α:Type} [Inhabited α] (l:List α) (i j:Nat) (x:α) (hj:j<l.length):(l.set i x).getD j default=if i=j then x else l.getD j default:=by
 rw[yAg,yB8,yAg];by_cases h:i=j
 ·subst h;rw[zZ8 Z,zZ8 hj,zZ8 Z];rfl
 ·rw[zZ7 h,zZ7 h]
theorem MM {c:Cf} (hv:VT c) {sv:List Sv} {now:Int}:∀(ks:List Int) (sg:List Sg),sg.length=c.js.length->(∀k,k<c.js.length->JI (c.js.getD k default) (sg.getD k default) (sv.getD k default) now)->(XT c sg ks).length=c.js.length/\∀k,k<c.js.length->JI (c.js.getD k default) ((XT c sg ks).getD k default) (sv.getD k default) now
 | [],sg,hl,h=>⟨hl,h⟩
 |x::ks,sg,hl,h=>by
  have e:XT c sg (x::ks)=XT c (sg.set x.toNat (srF (c.js.getD x.toNat default) (sg.getD x.toNat default))) ks:=rfl;rw[e];refine MM hv ks _ (by rw[yBv];exact hl) λk hk=>?_
  rw[UC _ _ _ _ zB];split
  ·rename_i hx;rw[hx];have H:=h k hk;exact⟨zZl (hv.jv _ (zP c.js k hk)) H.c,H.n,H.e,H.g⟩
  ·exact h k hk
def zB9 (D:Nat->Sg×Sv) (l:List Sg) (n k:Nat) (h1:k<n) (h2:k<l.length):(OY D l n).getD k default=(D k).1:=by
 unfold OY;rw[yAg,vQ,zZ8 h2,zZ8 h1];rfl
def zCa (D:Nat->Sg×Sv) (l:List Sv) (n k:Nat) (h1:k<n) (h2:k<l.length):(OZ D l n).getD k default=(D k).2:=by
 unfold OZ;rw[yAg,vQ,zZ8 h2,zZ8 h1];rfl
def stU (js:List Jn) (D:Nat->Sg×Sv) (n:Nat):List Vw:=(List.range n).map λk=>MS (js.getD k default) (D k).1 (D k).2
def zN4 (js:List Jn) (D:Nat->Sg×Sv) (n:Nat):stW js D n n=(stU js D n).map vO:=by
 unfold stW stU;rw[fL,yE9];rfl
def SA (y:Cy) (R:Nat->DR):Nat->Sg×Sv:=bM y.c (XT y.c y.sg (aQ R y.ds.length)) y.sv y.st (TL (y.now+1) y.ds R y.ds.length) (y.now+1)
def qI (y:Cy) (R:Nat->DR):Cy:=
 ⟨y.c,false,y.now+1,TL (y.now+1) y.ds R y.ds.length,OY (SA y R) (XT y.c y.sg (aQ R y.ds.length)) y.c.js.length,OZ (SA y R) y.sv y.c.js.length,KT y.st y.c.js.length,stU y.c.js (SA y R) y.c.js.length⟩
def TkR (y:Cy) (ins:List In) (R:Nat->DR):Prop:=∀a,a<y.ds.length->DtP y.c (y.now+1) (JT (y.ds.getD a default) (y.now+1)) (owI y.c ins a) (R a)/\zN 94 [vG y.c,zI (JT (y.ds.getD a default) (y.now+1)),zD jG (owI y.c ins a),iA (y.now+1)] [] (drT (R a)) []
def aO {now:Int} {ds:List yY} {R:Nat->DR} {a:Nat} (ha:a<ds.length):(TL now ds R ds.length).getD a default=(R a).d:=by
 unfold TL;rw[fL,yAg,yAa,yA4 ha];rfl
def cD (now:Int) (ds:List yY) (R:Nat->DR):(TL now ds R ds.length).length=ds.length:=by simp[TL]
def aP {now:Int} {ds:List yY} {R:Nat->DR} {d:yY} (h:d∈TL now ds R ds.length):∃a,a<ds.length/\d=(R a).d:=by
 obtain⟨i,hi,rfl⟩:=dL h;rw[cD]at hi;exact⟨i,hi,aO hi⟩
def zHj (l:List Rq) (now:Int):YB l (zKy l now):=YB.filter _ _
noncomputable def dtR (y:Cy) (ins:List In) (a:Nat):DR:=YD y.c (JT (y.ds.getD a default) (y.now+1)) (owI y.c ins a) (y.now+1)
def zXf {y:Cy} (h:XS y) (hn:y.now<1000000000) {ins:List In} (hil:(ins.length:Int)=qE y.c.ags y.c.ags.length) (hin:∀i∈ins,InS i):TkR y ins (dtR y ins):=λa ha=>by
 have hI:=h.di _ (zP y.ds a ha);obtain⟨b1,b2,_⟩:=zX8 hI (y.now+1);have hau:=hI.au;rw[h.dg a ha]at hau;have hs:=(h.v.av _ (zP y.c.ags a (by have:=h.dl;omega))).e;have n0:=h.n0
 exact zEc y.c _ b1 (owI y.c ins a) (by unfold owI AR;rw[zZ9,yBp];show _=(y.ds.getD a default).au.length;omega) (λi hi=>by
  unfold owI AR at hi;obtain⟨k,_,rfl⟩:=yA5.1 hi;by_cases hk:(qE y.c.ags a).toNat+k<ins.length
  ·exact hin _ (zP ins _ hk)
  ·rw[yAg,yAz zB]
   exact⟨yAp _,λx hx=>by cases hx⟩) (y.now+1) zB zB
def MN {y:Cy} (h:XS y) {ins:List In} {R:Nat->DR} (hR:TkR y ins R):XS (qI y R):=by
 have n0:=h.n0;have hg:=MM h.v (sv:=y.sv) (now:=y.now) (aQ R y.ds.length) y.sg h.gl h.j
 have hD:∀k,k<y.c.js.length->JI (y.c.js.getD k default) (SA y R k).1 (SA y R k).2 (y.now+1):=λk hk=>by
  have J:=h.v.jv _ (zP y.c.js k hk);have H:=hg.2 k hk;exact zZi J zB ⟨H.c,H.n,λe he=>by have:=H.e e he;omega,H.g⟩ _ _ _
 have hsl:=h.sl;refine⟨h.v,rfl,by show 0<=y.now+1;omega,(cD ..).trans h.dl,λd hd=>?_,λa ha=>?_,λd hd=>?_,?_,?_,?_,?_,λw hw=>?_,λk hk=>?_⟩
 ·obtain⟨a,ha,rfl⟩:=aP hd;exact(hR a ha).1.i
 ·have ha':a<y.ds.length:=by rw[<-cD (y.now+1) y.ds R];exact ha
  show((TL (y.now+1) y.ds R y.ds.length).getD a default).rg.ag=_
  rw[aO ha',(hR a ha').1.ag];exact h.dg a ha'
 ·obtain⟨a,ha,rfl⟩:=aP hd;refine(hR a ha).1.sc ?_;exact GE.of zB ((h.sc _ (zP y.ds a ha)).mono zB) (zHj _ _)
 ·show(OY _ _ _).length=_
  unfold OY;rw[wP];exact hg.1
 ·show(OZ _ _ _).length=_
  unfold OZ;rw[wP];exact h.sl
 ·show(KT _ _).length=_
  unfold KT;rw[wP];exact h.tl
 ·show(stU _ _ _).length=_
  simp[stU,qI]
 ·unfold qI stU at hw;obtain⟨k,hk,rfl⟩:=yA5.1 hw;exact zR9 _ (h.v.jv _ (zP y.c.js k (yAt.1 hk))) _ _
 ·show JI _ ((OY (SA y R) (XT y.c y.sg (aQ R y.ds.length)) y.c.js.length).getD k default) ((OZ (SA y R) y.sv y.c.js.length).getD k default) _
  have hk':k<y.c.js.length:=hk;rw[zB9 _ _ _ _ hk' (by rw[hg.1];exact hk'),zCa _ _ _ _ hk' zB];exact hD k hk
def tdT (y:Cy) (ins:List In) (R:Nat->DR) (n a k:Nat):List Ms:=if(ins.getD ((qE y.c.ags a).toNat+k) default).opn=true then tlF (y.ds.getD a default) y.vw y.now k (R a).R (OX R n)else []
def BP (T:Nat->Nat->List Ms) (a k:Nat):List (List Ms):=(List.range k).map (T a)
def GC (c:Cf) (T:Nat->Nat->List Ms) (n:Nat):List (List Ms):=((List.range n).map λa=>BP T a (c.ags.getD a default).ses.toNat).flatten
def tdA (T:List (List Ms)) (f:Ms):AV:= .agg [zD bZ T,zD yB [f]]
def zHk (T:Nat->Nat->List Ms) (a k:Nat):BP T a (k+1)=BP T a k++[T a k]:=by simp[BP,yCm]
def QJ (c:Cf) (T:Nat->Nat->List Ms) (n:Nat):GC c T (n+1)=GC c T n++BP T n (c.ags.getD n default).ses.toNat:=by simp[GC,yCm]
theorem RB {c:Cf} (hw:AgW c.ags) (T:Nat->Nat->List Ms):∀n,n<=c.ags.length->((GC c T n).length:Int)=qE c.ags n
 |0,_=>rfl
 |n+1,hn=>by
  have ih:=RB hw T n zB;have:=hw.at (i:=n) zB;rw[QJ,yAd]
  show _=qE c.ags n+(c.ags.getD n default).ses
  have:(BP T n (c.ags.getD n default).ses.toNat).length=(c.ags.getD n default).ses.toNat:=by simp[BP]
  omega
theorem RC {c:Cf} (hw:AgW c.ags) (T:Nat->Nat->List Ms):∀n,n<=c.ags.length->∀s,s<(GC c T n).length->∃a k:Nat,a<n/\(k:Int)<(c.ags.getD a default).ses/\s=(qE c.ags a).toNat+k/\(GC c T n).getD s []=T a k
 |0,_,s,hs=>by cases hs
 | n+1,hn,s,hs=>by
  have hl:=RB hw T n zB;rw[QJ]at hs⊢;by_cases h:s<(GC c T n).length
  ·obtain⟨a,k,h1,h2,h3,h4⟩:=RC hw T n zB s h;refine⟨a,k,zB,h2,h3,?_⟩;rw[yAg,yBe h,<-yAg];exact h4
  ·rw[yAd]at hs;have hp:(BP T n (c.ags.getD n default).ses.toNat).length=(c.ags.getD n default).ses.toNat:=by simp[BP]
   refine⟨n,s-(GC c T n).length,zB,zB,zB,?_⟩;rw[yAg,yA1 zB];unfold BP;rw[yAa,yA4 zB];rfl
def LsP (ex ey:Bool) (ax ay sx sy gx gy ix iy:Int):Prop:=(ex=true/\ey=false)∨(ex=ey/\(ay<ax∨(ax=ay/\(sx<sy∨(sx=sy/\(gx<gy∨(gx=gy/\ix<iy)))))))
def UD (per cap:Int) (es:List Int) (now:Int) (x y:Cl):kL per cap es now x y=true↔LsP (jW x.k) (jW y.k) (bW per cap es now x) (bW per cap es now y) (jX es x.ph x.si) (jX es y.ph y.si) x.ag y.ag x.id y.id:=by
 unfold kL LsP;generalize jW x.k=ex;generalize jW y.k=ey;generalize bW per cap es now x=ax;generalize bW per cap es now y=ay;generalize jX es x.ph x.si=sx;generalize jX es y.ph y.si=sy
 cases ex<;>cases ey<;>simp only[yC7,yEs,yFi,yE2,yEr,reduceCtorEq,and_true,true_and,yF9,yGj,yEy,false_or,true_or,or_true,iff_true,iff_false,yE6]
 all_goals
  by_cases h1:ax=ay
  ·rw[zZ7 zB];by_cases h2:sx=sy
   ·rw[zZ7 zB];by_cases h3:x.ag=y.ag
    ·rw[zZ7 zB,yAc];omega
    ·rw[zZ8 zB,yAc];omega
   ·rw[zZ8 zB,yAc];omega
  ·rw[zZ8 zB,yAc];omega
def MO (per cap:Int) (es:List Int) (now:Int) (x:Cl):kL per cap es now x x=false:=by
 rw[yCx];intro h;rw[UD]at h;unfold LsP at h
 cases jW x.k<;>simp at h
def FH {per cap:Int} {es:List Int} {now:Int} {x y z:Cl} (h1:kL per cap es now x y=true) (h2:kL per cap es now y z=true):kL per cap es now x z=true:=by
 rw[UD]at *; unfold LsP at *;generalize jW x.k=ex at *;generalize jW y.k=ey at *;generalize jW z.k=ez at*
 cases ex<;>cases ey<;>cases ez<;>simp at h1 h2⊢ <;>omega
theorem MP (g:Cf) (s:Sv) (now:Int) (xs:List Cl):∀i k,k<i->JJ g.lock s.en now (xs.getD k default).ph (xs.getD k default).k=false->0<=uD g s now xs i/\kL g.per g.cap s.en now (xs.getD k default) (xs.getD (uD g s now xs i).toNat default)=false
 |0,_,h,_=>absurd h (yCj _)
 | i +1,k,h,hk=>by
  have ih:=MP g s now xs i k;have hs:=QT g s now xs i;by_cases h1:JJ g.lock s.en now (xs.getD i default).ph (xs.getD i default).k=true
  ·rw[zZ8 h1]at hs;rw[hs];refine ih ?_ hk;by_cases e:k=i
   ·subst e;rw[hk]at h1;cases h1
   ·omega
  ·rw[zZ7 h1]at hs;by_cases h2:uD g s now xs i<0
   ·rw[zZ8 h2]at hs;rw[hs,yAx];refine⟨zB,?_⟩;by_cases e:k=i
    ·subst e;exact MO ..
    ·exact absurd (ih zB hk).1 zB
   ·rw[zZ7 h2]at hs;by_cases h3:kL g.per g.cap s.en now (xs.getD i default) (xs.getD (uD g s now xs i).toNat default)=true
    ·rw[zZ8 h3]at hs;rw[hs,yAx];refine⟨zB,?_⟩;by_cases e:k=i
     ·subst e;exact MO ..
     ·rw[yCx];intro h4;have h5:=(ih zB hk).2;rw[FH h4 h3]at h5;cases h5
    ·rw[zZ7 h3]at hs;rw[hs];refine⟨zB,?_⟩;by_cases e:k=i
     ·subst e;simpa using h3
     ·exact(ih zB hk).2
def zHl {g:Cf} {s:Sv} {now F:Int} {xs:List Cl} {k:Nat} (hk:k<xs.length) (hem:∀x∈xs,jW x.k=false) (hc:0<=(xs.getD k default).k) (hp:1<=g.per) (h0:0<=g.cap)
  (hs:jX s.en (xs.getD k default).ph (xs.getD k default).si<=F) (h1:g.lock<now-F) (h2:g.cap*g.per<=now-F):
  ∃i,i<xs.length/\uD g s now xs xs.length=(i:Int)/\jX s.en (xs.getD i default).ph (xs.getD i default).si<=F:=by
 have he:∀i,i<xs.length->jW (xs.getD i default).k=false:=λi hi=>hem _ (zP xs i hi)
 have hlk:JJ g.lock s.en now (xs.getD k default).ph (xs.getD k default).k=false:=by
  unfold JJ;rw[he k hk];have:kC s.en (xs.getD k default).ph<=F:=by unfold jX at hs;omega
  generalize kC s.en (xs.getD k default).ph=e at *;rw[yAh (show¬now-e<=g.lock by omega),yDp,yDp]
 obtain⟨b1,b2⟩:=MP g s now xs xs.length k hk hlk;have hb:=dN g s now xs xs.length;refine⟨(uD g s now xs xs.length).toNat,zB,zB,?_⟩;have hb':(uD g s now xs xs.length).toNat<xs.length:=by omega
 generalize (uD g s now xs xs.length).toNat=i at *;have e1:=he k hk;have e2:=he i hb';clear hlk he hem hb b1;generalize xs.getD k default=x at *;generalize xs.getD i default=y at *;rw[yCx]at b2;rw[yC7,UD]at b2;unfold LsP bW at b2;rw[e1,e2]at b2;simp only[yE6,yFi,yGj,false_or,true_and]at b2
 have lx:ED g.per g.cap s.en now x.ph x.k x.si=g.cap:=by
  unfold ED;have:g.cap<=(now-jX s.en x.ph x.si)/g.per:=(Int.le_ediv_iff_mul_le zB).2 zB;omega
 have ly:ED g.per g.cap s.en now y.ph y.k y.si<=g.cap:=by unfold ED;omega
 rw[lx]at b2;omega
theorem KM {α:Type} (p q:α->Bool):∀l:List α,(∀x∈l,p x=true->q x=true)->(l.filter p).length<=(l.filter q).length
 | [],_=>yAb _
 | a::l,h=>by
  have ih:=KM p q l λx hx=>h x MD
  have ha:=h a zU;simp only[yEw]
  cases hp:p a with
  |false=>
   rw[zZ7 yAs];split
   ·rw[yAl];omega
   ·exact ih
  |true=>
   rw[zZ8 Z,zZ8 (ha hp),yAl,yAl];omega
theorem KN {α:Type} (p q:α->Bool):∀l:List α,(∀x∈l,p x=true->q x=true)->∀a∈l,p a=false->q a=true->(l.filter p).length+1<=(l.filter q).length
 | [],_,_,h,_,_=>by cases h
 | b::l,h,a,ha,h1,h2=>by
  have hle:=KM p q l λx hx=>h x MD
  have hb:=h b zU;simp only[yEw]
  rcases yBd.1 ha with rfl|ha
  ·rw[h1,h2,zZ7 yAs,zZ8 Z,yAl];omega
  ·have ih:=KN p q l (λx hx=>h x MD) a ha h1 h2
   cases hp:p b with
   |false=>
    rw[zZ7 yAs];split
    ·rw[yAl];omega
    ·exact ih
   |true=>
    rw[zZ8 Z,zZ8 (hb hp),yAl,yAl];omega
theorem zHm {α:Type} (p q:α->Bool):∀l:List α,(l.filter λx=>p x||q x).length<=(l.filter p).length+(l.filter q).length
 | []=>yAb _
 |a::l=>by
  have ih:=zHm p q l;simp only[yEw]
  cases p a<;>cases q a<;>simp only[yFw,yDb,yE2,yFi,yE6,yAl]<;>omega
theorem zCb (a:Int):∀n,((List.range n).filter λq:Nat=>a==(q:Int)).length<=1
 |0=>by simp
 | n+1=>by
  rw[yCm,yDc,yAd];by_cases h:a=(n:Int)
  ·have:((List.range n).filter λq:Nat=>a==(q:Int))=[]:=by
    rw[List.filter_eq_nil_iff];intro q hq;have:=yAt.1 hq;simp only[yBf];omega
   rw[this];simp[h]
  ·have ih:=zCb a n;have:([n].filter λq:Nat=>a==(q:Int))=[]:=by simp[h]
   rw[this];simpa using ih
theorem zHn (n:Nat):∀l:List Cl,((List.range n).filter λq:Nat=>l.any λx=>x.ph==(q:Int)).length<=l.length
 | []=>by simp
 |x::l=>by
  have h1:=zHm (λq:Nat=>x.ph==(q:Int)) (λq:Nat=>l.any λx=>x.ph==(q:Int)) (List.range n);have h2:=zCb x.ph n;have h3:=zHn n l;simp only[yGg,yAl];omega
def elF (l:List Cl) (en:List Int) (p:Nat) (F:Int) (q:Nat):Bool:=decide (q≠p)&&l.any λx=>x.ph==(q:Int)&&decide (jX en q x.si<=F)
def elN (l:List Cl) (en:List Int) (p:Nat) (F:Int) (n:Nat) (t:Int):Nat:=((List.range n).filter λq=>elF l en p F q&&decide ((q:Int)≠t)).length
def zXg {l:List Cl} {en:List Int} {p:Nat} {F:Int} {n:Nat} {t:Int} (hp:p<n):elN l en p F n t+1<=n:=by
 have:=KN (λq=>elF l en p F q&&decide ((q:Int)≠t)) (λ_=>true) (List.range n) (λ_ _ _=>rfl) p (yAt.2 hp) (by simp[elF]) Z;have h2:(List.range n).filter (λ_=>true)=List.range n:=yDj.2 λ_ _=>rfl
 rw[h2,yBp]at this;exact this
def zXh {l:List Cl} {en:List Int} {p:Nat} {F:Int} {n:Nat} {t:Int} (hp:p<n) (hx:∃x∈l,x.ph=(p:Int)):elN l en p F n t+1<=l.length:=by
 obtain⟨x,hx,e⟩:=hx
 have h1:=KN (λq=>elF l en p F q&&decide ((q:Int)≠t)) (λq:Nat=>l.any λx=>x.ph==(q:Int)) (List.range n) (λq _ h=>by
  unfold elF at h;simp only[yAk,yBo,yBf]at h⊢;obtain⟨⟨_,y,hy,h,_⟩,_⟩:=h
  exact⟨y,hy,h⟩) p (yAt.2 hp) (by simp[elF]) zSr
 have h2:=zHn n l;unfold elN;omega
def GI (c:Ct) (v:Sv):Prop:=0<=v.ph->0<v.gr->(xJ c v.ph.toNat).lamp=1
structure WJ (j:Jn) (s:Sg) (v:Sv):Prop where
 p0: -1<=v.ph
 p1:v.ph<(j.ph.length:Int)
 l:s.lat=true->v.ph= -1
 g:s.lat=false->GI s.c v
def zTn {j:Jn} {s:Sg} {v:Sv} (C:CV j s.c) (hv:v.ph<(j.ph.length:Int)):grB s v=decide (0<=v.ph/\(xJ s.c v.ph.toNat).lamp=1):=by
 have hx:=C.n;unfold grB;rw[hx,yEk];simp only[yAk,yAc,yBf];omega
def KO {g:Cf} {j:Jn} {s:Sg} {v:Sv} {l:List Cl} {k now:Int} (h:(cF g j s v l k now).1.lat=false):
  s.lat=false/\(cF g j s v l k now).1.c=bG j s.c (xQ g v l now).ph/\(cF g j s v l k now).2=jO (xQ g v l now) (grB (cF g j s v l k now).1 (xQ g v l now)):=by
 cases hl:s.lat with
 |true=>
  unfold cF at h;rw[zZ8 hl]at h;rw[hl]at h;cases h
 | false=>
  have e:cF g j s v l k now=if(BR j s (xQ g v l now).ph k).lat=true then(BR j s (xQ g v l now).ph k,kK (xQ g v l now) now)else(BR j s (xQ g v l now).ph k,jO (xQ g v l now) (grB (BR j s (xQ g v l now).ph k) (xQ g v l now))):=by
   unfold cF;rw[zZ7 (by rw[hl];exact yAs)]
  rw[e]at h⊢;by_cases hx:(BR j s (xQ g v l now).ph k).lat=true
  ·rw[zZ8 hx]at h;rw[hx]at h;cases h
  ·rw[zZ7 hx]at h⊢;refine⟨rfl,?_,rfl⟩;unfold BR;rw[zZ7 (by rw[hl];exact yAs)]
def zCc {g:Cf} {v:Sv} {l:List Cl} {now:Int} {n:Nat} (hl:∀c∈l,0<=c.ph/\c.ph<(n:Int)) (h0: -1<=v.ph) (h1:v.ph<(n:Int)): -1<=(xQ g v l now).ph/\(xQ g v l now).ph<(n:Int):=by
 have h2:=KX g v l now;have hb:=dN g (uN g v l now) now l l.length;unfold xQ;split
 ·rename_i hh;have:=fM (λc:Cl=>0<=c.ph/\c.ph<(n:Int)) default l (uD g (uN g v l now) now l l.length).toNat hl zB;dsimp only;omega
 ·omega
def zCd {g:Cf} {v:Sv} {l:List Cl} {now:Int}:((xQ g v l now).ph=v.ph/\(xQ g v l now).gr=v.gr/\(xQ g v l now).en=v.en/\(v.ph= -1∨jH g v l=false))∨(xQ g v l now).gr=0:=by
 unfold xQ;split
 ·exact .inr Z
 ·rename_i hn;unfold uN at hn⊢;split
  ·exact .inr Z
  ·rename_i h;refine .inl ⟨rfl,rfl,rfl,?_⟩;by_cases hp:v.ph= -1
   ·exact .inl hp
   ·right
    cases ho:jH g v l with
    |false=>rfl
    |true=>exact absurd ⟨hp,ho⟩ h
def QK {g:Cf} {v:Sv} {l:List Cl} {now:Int} (hp:0<=v.ph) (ho:jH g v l=false):xQ g v l now=v:=by
 have e:uN g v l now=v:=by
  unfold uN;rw[zZ7 (λh=>by rw[ho]at h;exact yAs h.2)]
 unfold xQ;rw[e,zZ7 (λh=>by omega)]
def zCe {j:Jn} {s:Sg} {u:Sv} (C:CV j s.c) (hu:u.ph<(j.ph.length:Int)):(jO u (grB s u)).gr=if 0<=u.ph/\(xJ s.c u.ph.toNat).lamp=1 then min u.gr 59+1 else u.gr:=by
 rw[zTn C hu];unfold jO;by_cases h:0<=u.ph/\(xJ s.c u.ph.toNat).lamp=1
 ·rw[yAe h,zZ8 ⟨rfl,zB⟩,zZ8 h]
 ·rw[yAh h,zZ7 (λh=>yAs h.1),zZ7 h]
theorem WJ.step {j:Jn} (J:JV j) {g:Cf} {s:Sg} {v:Sv} {l:List Cl} {k now:Int} (C:CV j s.c) (W:WJ j s v) (hl:∀c∈l,0<=c.ph/\c.ph<(j.ph.length:Int)):WJ j (cF g j s v l k now).1 (cF g j s v l k now).2:=by
 have hx:=zOn J C g v l k now;obtain⟨d0,d1⟩:=zCc (g:=g) (now:=now) hl W.p0 W.p1
 cases hlt:(cF g j s v l k now).1.lat with
 |true=>
  have:=zUd hlt;exact⟨zB,zB,λ_=>this,λh=>by rw[hlt]at h;cases h⟩
 | false=>
  obtain⟨o1,o2,o3⟩:=KO hlt;have e2:=(KY (xQ g v l now) (grB (cF g j s v l k now).1 (xQ g v l now))).2;refine⟨by rw[o3,e2];exact d0,by rw[o3,e2];exact d1,λh=>(by rw[hlt]at h;cases h),λ_ h0 h1=>?_⟩;rw[o3]at h0 h1⊢;rw[e2]at h0⊢;rw[zCe hx d1]at h1;split at h1
  ·rename_i h;exact h.2
  ·rename_i h
   rcases zCd (g:=g) (v:=v) (l:=l) (now:=now)with⟨n1,n2,_,_⟩|n
   ·rw[o2];obtain⟨t,ht⟩:∃t:Nat,(xQ g v l now).ph=t:=⟨(xQ g v l now).ph.toNat,zB⟩;have:=W.g o1 zB zB;rw[<-n1,ht,yAx]at this;rw[ht,yAx];exact RE J C zB this
   ·omega
def Rem (hold:Int) (j:Jn) (c:Ct) (v:Sv) (r:Int):Prop:=
 ∃t:Nat,v.ph=(t:Int)/\t<j.ph.length/\((1<=v.gr/\v.gr<=hold/\(xJ c t).lamp=1/\r=hold-v.gr)∨
  (v.gr=0/\∃(k:Nat) (c0:Ct),CV j c0/\c=UJ j c0 t k/\(∀i,1<=i->i<=k->(xJ (UJ j c0 t i) t).lamp≠1)/\(k:Int)<=ZP j/\r=ZP j-k+hold))
theorem Rem.nn {hold:Int} {j:Jn} {c:Ct} {v:Sv} {r:Int} (h:Rem hold j c v r) (hh:0<=hold):0<=r/\r<=ZP j+hold∨ZP j<0:=by
 obtain⟨t,_,_,⟨h1,h2,_,h3⟩|⟨_,k,c0,_,_,_,h4,h5⟩⟩:=h<;>omega
def AP {hold:Int} {j:Jn} (J:JV j) {c0:Ct} (C:CV j c0) {t k:Nat} (ht:t<j.ph.length) (hk:(k:Int)<=ZP j) (hn:∀i,1<=i->i<=k->(xJ (UJ j c0 t i) t).lamp≠1) (hh:1<=hold) {v:Sv} (hv:v.ph=(t:Int))
  (hg:v.gr=if(xJ (UJ j c0 t (k+1)) t).lamp=1 then 1 else 0):∃r,Rem hold j (UJ j c0 t (k+1)) v r/\r<=ZP j-k+hold-1:=by
 by_cases hl:(xJ (UJ j c0 t (k+1)) t).lamp=1
 ·rw[zZ8 hl]at hg;exact⟨hold-1,⟨t,hv,ht,.inl ⟨zB,zB,hl,zB⟩⟩,zB⟩
 ·rw[zZ7 hl]at hg
  have hk1:((k+1:Nat):Int)<=ZP j:=by
   obtain⟨n,n1,n2⟩:=zXp J C ht;by_cases h:n<=k+1
   ·have h5:=zIt J (zCo J C t n) ht n2 (k+1-n);rw[JE,show n+(k+1-n)=k+1 by omega]at h5;exact absurd h5 hl
   ·omega
  refine⟨ZP j-(k+1:Nat)+hold,⟨t,hv,ht,.inr ⟨hg,k+1,c0,C,rfl,λi h1 h2=>?_,hk1,rfl⟩⟩,zB⟩;by_cases e:i=k+1
  ·subst e;exact hl
  ·exact hn i h1 zB
theorem Rem.step {j:Jn} (J:JV j) {g:Cf} {s:Sg} {v:Sv} {l:List Cl} {k now:Int} (C:CV j s.c) (W:WJ j s v) (hl:∀c∈l,0<=c.ph/\c.ph<(j.ph.length:Int)) (h1:1<=g.hold) (h60:g.hold<=60)
  (hlat:(cF g j s v l k now).1.lat=false) (hp:0<=(xQ g v l now).ph) (hg0:0<=v.gr):
  (∃r,Rem g.hold j (cF g j s v l k now).1.c (cF g j s v l k now).2 r/\r<=ZP j+g.hold)/\(jH g v l=false->∀r,Rem g.hold j s.c v r->∃r',Rem g.hold j (cF g j s v l k now).1.c (cF g j s v l k now).2 r'/\r'<=r-1):=by
 obtain⟨d0,d1⟩:=zCc (g:=g) (now:=now) hl W.p0 W.p1;obtain⟨o1,o2,o3⟩:=KO hlat;have hx:=zOn J C g v l k now;have e2:=(KY (xQ g v l now) (grB (cF g j s v l k now).1 (xQ g v l now))).2;have e3:=zCe hx d1;have hT:=RF J;have hst:=J.st;obtain⟨t,ht⟩:∃t:Nat,(xQ g v l now).ph=t:=⟨(xQ g v l now).ph.toNat,zB⟩;have htn:t<j.ph.length:=by omega
 have hgo:jH g v l=false->v.gr<g.hold:=λh=>(zEl h).2.1
 have hdn:=zCd (g:=g) (v:=v) (l:=l) (now:=now);have hsm:=QK (g:=g) (v:=v) (l:=l) (now:=now);rw[o3,o2];rw[o2]at e3;generalize jO (xQ g v l now) (grB (cF g j s v l k now).1 (xQ g v l now))=x at *;generalize xQ g v l now=u at *;rw[ht]at e2 e3⊢;rw[yAx]at e3;have hs1:bG j s.c (t:Int)=UJ j s.c t 1:=rfl
 have hgreen:1<=u.gr->u.ph=v.ph->(xJ (bG j s.c (t:Int)) t).lamp=1:=λh he=>by
  rcases hdn with⟨n1,n2,_,_⟩|n
  ·have:=W.g o1 zB zB;rw[<-he,ht,yAx]at this;exact RE J C htn this
  ·omega
 constructor
 ·rcases hdn with⟨n1,n2,_,n3⟩|n
  ·by_cases hz:u.gr=0
   ·rw[hz]at e3
    obtain⟨r,r1,r2⟩:=AP (hold:=g.hold) J C htn (k:=0) zB (λi h1 h2=>by omega) h1 (v:=x) e2 (by
     rw[e3,hs1];by_cases hgl:(xJ (UJ j s.c t 1) t).lamp=1
     ·rw[zZ8 ⟨zB,hgl⟩,zZ8 hgl];rfl
     ·rw[zZ7 (λh=>hgl h.2),zZ7 hgl])
    exact⟨r,r1,zB⟩
   ·have hu1:1<=u.gr:=by omega
    have hgl:=hgreen hu1 n1;rw[zZ8 ⟨zB,hgl⟩]at e3
    have hv:v.gr<g.hold:=by
     rcases n3 with n3|n3
     ·omega
     ·exact hgo n3
    exact⟨g.hold-x.gr,⟨t,e2,htn,.inl ⟨zB,zB,hgl,rfl⟩⟩,zB⟩
  ·rw[n]at e3
   obtain⟨r,r1,r2⟩:=AP (hold:=g.hold) J C htn (k:=0) zB (λi h1 h2=>by omega) h1 (v:=x) e2 (by
    rw[e3,hs1];by_cases hgl:(xJ (UJ j s.c t 1) t).lamp=1
    ·rw[zZ8 ⟨zB,hgl⟩,zZ8 hgl];rfl
    ·rw[zZ7 (λh=>hgl h.2),zZ7 hgl])
   exact⟨r,r1,zB⟩
 ·intro ho r ⟨t',ht',htn',hR⟩;have hv:=hgo ho;have euv:=hsm zB ho;have ett:t'=t:=by rw[euv]at ht;omega
  subst ett;have hun:u.gr=v.gr:=by rw[euv]
  rcases hR with⟨q1,q2,q3,q4⟩|⟨q1,m,c0,C0,q2,q3,q4,q5⟩
  ·have hgl:(xJ (bG j s.c (t':Int)) t').lamp=1:=RE J C htn q3;rw[zZ8 ⟨zB,hgl⟩]at e3;exact⟨g.hold-x.gr,⟨t',e2,htn,.inl ⟨zB,zB,hgl,rfl⟩⟩,zB⟩
  ·have hz:u.gr=0:=by omega
   rw[hz]at e3;have hc:bG j s.c (t':Int)=UJ j c0 t' (m+1):=by rw[q2];rfl
   rw[hc]at e3⊢
   obtain⟨r',r1,r2⟩:=AP (hold:=g.hold) J C0 htn q4 q3 h1 (v:=x) e2 (by
    rw[e3];by_cases hgl:(xJ (UJ j c0 t' (m+1)) t').lamp=1
    ·rw[zZ8 ⟨zB,hgl⟩,zZ8 hgl];rfl
    ·rw[zZ7 (λh=>hgl h.2),zZ7 hgl])
   exact⟨r',r1,zB⟩
def nsA (g:Cf):Int:=max (g.lock+1) (g.cap*g.per)
def nsD (g:Cf) (j:Jn):Int:=ZP j+g.hold+2
def nsN (j:Jn) (R:Int):Int:=min j.ph.length R
def nsU (l:List Cl) (v:Sv) (p:Nat) (F:Int) (n:Nat):Int:=(elN l v.en p F n v.ph:Int)+if v.ph=(p:Int)then 0 else 1
structure WI (g:Cf) (j:Jn) (R:Int) (l:List Cl) (c:Ct) (v:Sv) (p:Nat) (F now:Int):Prop where
 f:F<=now
 e:kC v.en (p:Int)<=F
 b:nsA g<=now-F->∃r,Rem g.hold j c v r/\nsU l v p F j.ph.length*nsD g j+r+(now-F)<=nsA g+(nsN j R+1)*nsD g j
structure CfN (g:Cf):Prop where
 h1:1<=g.hold
 h60:g.hold<=60
 c0:0<=g.cap
 p1:1<=g.per
 l0:0<=g.lock
def zHo {es:List Int} {a x:Int} {q:Int} (h:a≠q) (ha:0<=a):kC (es.set a.toNat x) q=kC es q:=by
 unfold kC;rw[yBv];split
 ·rfl
 ·rw[yAg,yAg,yD8 zB]
def FI {es:List Int} {a x:Int} (ha:0<=a) (hl:a<es.length):kC (es.set a.toNat x) a=x:=by
 unfold kC;rw[yBv,zZ7 zB,yAg,yBq zB];rfl
def zCf {es:List Int} {m:Int} (h:∀e∈es,e<=m) (hm: -1<=m) (q:Int):kC es q<=m:=by
 unfold kC;split
 ·exact hm
 ·exact fM (λe=>e<=m) 0 es q.toNat h zB
def zHp {g:Cf} {v:Sv} {l:List Cl} {now:Int}:(uN g v l now=v/\(v.ph= -1∨jH g v l=false))∨(v.ph≠ -1/\jH g v l=true/\uN g v l now=kK v now):=by
 unfold uN;split
 ·rename_i h;exact .inr ⟨h.1,h.2,rfl⟩
 ·rename_i h;refine .inl ⟨rfl,?_⟩;by_cases hp:v.ph= -1
  ·exact .inl hp
  ·right
   cases ho:jH g v l with
   |false=>rfl
   |true=>exact absurd ⟨hp,ho⟩ h
def FJ {g:Cf} {v:Sv} {l:List Cl} (hem:∀x∈l,jW x.k=false) (h:jH g v l=true):(∀x∈l,x.ph≠v.ph)∨g.hold<=v.gr:=by
 unfold jH at h;rw[yCi,yCi]at h
 rcases h with(h|h)|h
 ·left
  intro x hx e;rw[yCe,yCx]at h;exact h zSr
 ·exact .inr (yD5 h)
 ·exfalso;rw[yAk]at h;obtain⟨x,hx,e⟩:=yBo.1 h.1;rw[hem x hx]at e;cases e
theorem WI.bound {g:Cf} {j:Jn} (J:JV j) (G:CfN g) {R:Int} (hR:0<=R) {l:List Cl} {c:Ct} {v:Sv} {p:Nat} {F now:Int} (I:WI g j R l c v p F now):now-F+1<g.lock+g.cap*g.per+(nsN j R+2)*nsD g j:=by
 have hT:=RF J;have hst:=J.st;have h1:=G.h1;have hl:=G.l0;have hc:=yEc G.c0 (show 0<=g.per by have:=G.p1;omega);have hD:nsD g j=ZP j+g.hold+2:=rfl;have hN:0<=nsN j R:=by unfold nsN;omega
 have hA:nsA g<=g.lock+g.cap*g.per+1:=by unfold nsA;omega
 have e1:(nsN j R+2)*nsD g j=(nsN j R+1)*nsD g j+nsD g j:=by rw[show nsN j R+2=nsN j R+1+1 by omega,yGa (nsN j R+1),yGb]
 have e2:0<=(nsN j R+1)*nsD g j:=yEc zB zB;rw[e1];by_cases hb:nsA g<=now-F
 ·obtain⟨r,h2,h3⟩:=I.b hb
  have hr:0<=r:=by
   rcases h2.nn zB with h|h
   ·exact h.1
   ·omega
  have hu:0<=nsU l v p F j.ph.length*nsD g j:=yEc (by unfold nsU;split<;>omega) zB;omega
 ·omega
theorem WI.step {g:Cf} {j:Jn} (J:JV j) (G:CfN g) {R:Int} {s:Sg} {v:Sv} {l l':List Cl} {k:Int} {p:Nat} {F now:Int} (C:CV j s.c) (W:WJ j s v) (hpn:p<j.ph.length) (hen:∀e∈v.en,e<=now) (hel:v.en.length=j.ph.length) (n0: -1<=now) (hg0:0<=v.gr)
  (hlat:(cF g j s v l' k (now+1)).1.lat=false) (I:WI g j R l s.c v p F now) (hng:¬(0<=v.ph/\(xJ s.c p).lamp=1)) (hl:∀c∈l',0<=c.ph/\c.ph<(j.ph.length:Int)) (hem:∀x∈l',jW x.k=false) (hk:∀x∈l',0<=x.k)
  (hlen:(l'.length:Int)<=R) (hx:∃x∈l',x.ph=(p:Int)/\x.si<=F) (hper:∀x∈l',x.si<=now->∃y∈l,y.ph=x.ph/\y.si=x.si):
  WI g j R l' (cF g j s v l' k (now+1)).1.c (cF g j s v l' k (now+1)).2 p F (now+1):=by
 obtain⟨x,hx,xp,xs⟩:=hx;obtain⟨hF,he,hb⟩:=I;have h1:=G.h1;obtain⟨o1,_,o3⟩:=KO hlat;have hce:=KY (xQ g v l' (now+1)) (grB (cF g j s v l' k (now+1)).1 (xQ g v l' (now+1)));have e3:=hce.1;have e4:=hce.2;have hT:=RF J;have hst:=J.st
 have hgi:v.ph=(p:Int)->v.gr=0:=λhp=>by
  by_cases h0:0<v.gr
  ·have:=W.g o1 zB h0;rw[hp,yAx]at this;exact absurd ⟨zB,this⟩ hng
  ·omega
 have hd1:=zHp (g:=g) (v:=v) (l:=l') (now:=now+1)
 have hE:∀q:Int,kC v.en q<=kC (uN g v l' (now+1)).en q/\(q≠v.ph->kC (uN g v l' (now+1)).en q=kC v.en q)/\(v.gr=0->kC (uN g v l' (now+1)).en q=kC v.en q):=λq=>by
  rcases hd1 with⟨e,_⟩|⟨_,_,e⟩
  ·rw[e];exact⟨yB6 _,λ_=>rfl,λ_=>rfl⟩
  ·rw[e];unfold kK;dsimp only;split
   ·rename_i hc;by_cases hq:v.ph=q
    ·subst hq;rw[FI hc.2.1 hc.2.2];have:=zCf hen n0 v.ph;exact⟨zB,λh=>absurd Z h,λh=>by omega⟩
    ·rw[zHo hq hc.2.1];exact⟨yB6 _,λ_=>rfl,λ_=>rfl⟩
   ·exact⟨yB6 _,λ_=>rfl,λ_=>rfl⟩
 have hEp:kC (uN g v l' (now+1)).en (p:Int)=kC v.en p:=by
  by_cases hp:(p:Int)=v.ph
  ·exact(hE _).2.2 (hgi hp.symm)
  ·exact(hE _).2.1 hp
 rw[o3];have hden:=KW g v l' (now+1);refine⟨zB,by rw[e3,hden,hEp];exact he,λhA=>?_⟩;obtain⟨ix,hix,ex⟩:=dL hx;have hlk:g.lock<now+1-F:=by unfold nsA at hA;omega
 have hcp:g.cap*g.per<=now+1-F:=by unfold nsA at hA;omega
 have hbest:=zHl (g:=g) (s:=uN g v l' (now+1)) (now:=now+1) (F:=F) hix hem (by rw[ex];exact hk x hx) G.p1 G.c0 (by rw[ex,xp];unfold jX;rw[hEp];omega) hlk hcp;obtain⟨ib,hib,b1,b2⟩:=hbest
 have hdec:(uN g v l' (now+1)).ph= -1->(xQ g v l' (now+1)).ph=(l'.getD ib default).ph:=λh=>by
  unfold xQ;rw[zZ8 ⟨h,by rw[b1];omega⟩,b1,yAx]
 have hbm:=zP l' ib hib
 have hp0:0<=(xQ g v l' (now+1)).ph:=by
  rcases hd1 with⟨e,h⟩|⟨_,_,e⟩
  ·by_cases hv:v.ph= -1
   ·rw[hdec (by rw[e];exact hv)];exact(hl _ hbm).1
   ·have hv0:0<=v.ph:=by have:=W.p0;omega
    rw[QK hv0 (h.resolve_left hv)];exact hv0
  ·rw[hdec (by rw[e];rfl)];exact(hl _ hbm).1
 obtain⟨R1,R2⟩:=Rem.step J C W hl h1 G.h60 hlat hp0 hg0;rw[o3]at R1 R2
 have hU:∀(t:Int),(elN l' (xQ g v l' (now+1)).en p F j.ph.length t:Int)+1<=nsN j R:=λt=>by
  have a1:=zXg (l:=l') (en:=(xQ g v l' (now+1)).en) (F:=F) (t:=t) hpn;have a2:=zXh (l:=l') (en:=(xQ g v l' (now+1)).en) (F:=F) (t:=t) hpn ⟨x,hx,xp⟩;unfold nsN;omega
 have hD:nsD g j=ZP j+g.hold+2:=rfl;have hD0:0<=nsD g j:=by omega
 generalize hxv:jO (xQ g v l' (now+1)) (grB (cF g j s v l' k (now+1)).1 (xQ g v l' (now+1)))=x' at *;by_cases hB:nsA g<=now-F
 ·obtain⟨r0,hr0,hin⟩:=hb hB
  have hr0n:0<=r0:=by
   rcases hr0.nn zB with h|h
   ·exact h.1
   ·omega
  have hv0:0<=v.ph:=by obtain⟨t,ht,_⟩:=hr0;omega
  cases ho:jH g v l' with
  | false=>
   have es:=QK (now:=now+1) hv0 ho;obtain⟨r',h5,h6⟩:=R2 ho r0 hr0;refine⟨r',h5,?_⟩
   have hle:nsU l' x' p F j.ph.length<=nsU l v p F j.ph.length:=by
    unfold nsU;rw[e3,e4,es]
    have:elN l' v.en p F j.ph.length v.ph<=elN l v.en p F j.ph.length v.ph:=by
     unfold elN;refine KM _ _ _ λq _ hq=>?_
     rw[yAk]at hq⊢;refine⟨?_,hq.2⟩;unfold elF at hq⊢;simp only[yAk,yBo,yBf,yAc]at hq⊢;obtain⟨⟨q1,y,hy,q2,q3⟩,_⟩:=hq;obtain⟨z,hz,z1,z2⟩:=hper y hy (by unfold jX at q3;omega);exact⟨q1,z,hz,z1.trans q2,by rw[z2];exact q3⟩
    omega
   have:=yDv hle hD0;omega
  | true=>
   have hvp:v.ph≠(p:Int):=λh=>by
    have hz:=hgi h
    rcases FJ hem ho with h2|h2
    ·exact h2 x hx (by rw[xp,h])
    ·omega
   have ed:uN g v l' (now+1)=kK v (now+1):=by
    rcases hd1 with⟨_,h⟩|⟨_,_,e⟩
    ·rcases h with h|h
     ·omega
     ·rw[ho]at h;cases h
    ·exact e
   have eph:=hdec (by rw[ed];rfl)
   have hsub:∀q:Nat,q<j.ph.length->elF l' (uN g v l' (now+1)).en p F q=true->elF l v.en p F q=true/\(q:Int)≠v.ph:=λq hq hel'=>by
    unfold elF at hel'⊢;simp only[yAk,yBo,yBf,yAc]at hel'⊢;obtain⟨q1,y,hy,q2,q3⟩:=hel';have hys:y.si<=F/\kC (uN g v l' (now+1)).en (q:Int)<=F:=by unfold jX at q3;omega
    obtain⟨z,hz,z1,z2⟩:=hper y hy zB;refine⟨⟨q1,z,hz,z1.trans q2,?_⟩,λhqv=>?_⟩
    ·have:=(hE (q:Int)).1;unfold jX;omega
    ·rcases FJ hem ho with h2|h2
     ·exact h2 y hy (q2.trans hqv)
     ·have h7:=hys.2;rw[ed]at h7;unfold kK at h7;dsimp only at h7;rw[zZ8 ⟨zB,hv0,by have:=W.p1;omega⟩,hqv,FI hv0 (by have:=W.p1;omega)]at h7;omega
   have hle:nsU l' x' p F j.ph.length+1<=nsU l v p F j.ph.length:=by
    unfold nsU;rw[e3,e4,hden,zZ7 hvp];by_cases hqp:(xQ g v l' (now+1)).ph=(p:Int)
    ·rw[zZ8 hqp]
     have:elN l' (uN g v l' (now+1)).en p F j.ph.length (xQ g v l' (now+1)).ph<=elN l v.en p F j.ph.length v.ph:=by
      unfold elN;refine KM _ _ _ λq hq h=>?_
      rw[yAk]at h⊢;obtain⟨a1,a2⟩:=hsub q (yAt.1 hq) h.1;exact⟨a1,yAe a2⟩
     omega
    ·rw[zZ7 hqp];obtain⟨q0,hq0⟩:∃q0:Nat,(xQ g v l' (now+1)).ph=q0:=⟨(xQ g v l' (now+1)).ph.toNat,zB⟩;have hq0n:q0<j.ph.length:=by have:=(hl _ hbm).2;rw[<-eph]at this;omega
     have hel0:elF l' (uN g v l' (now+1)).en p F q0=true:=by
      unfold elF;simp only[yAk,yBo,yBf,yAc];refine⟨λh=>hqp (by rw[hq0,h]),_,hbm,by rw[<-eph,hq0],?_⟩;rw[<-eph,hq0]at b2;exact b2
     have:elN l' (uN g v l' (now+1)).en p F j.ph.length (xQ g v l' (now+1)).ph+1<=elN l v.en p F j.ph.length v.ph:=by
      unfold elN;refine KN _ _ _ (λq hq h=>?_) q0 (yAt.2 hq0n) ?_ ?_
      ·rw[yAk]at h⊢;obtain⟨a1,a2⟩:=hsub q (yAt.1 hq) h.1;exact⟨a1,yAe a2⟩
      ·rw[hq0];simp
      ·obtain⟨a1,a2⟩:=hsub q0 hq0n hel0;rw[a1,yAe a2];rfl
     omega
   obtain⟨r',h5,h6⟩:=R1;refine⟨r',h5,?_⟩;have hm:=yDv hle hD0;rw[yGa,yGb]at hm;omega
 ·obtain⟨r',h5,h6⟩:=R1;refine⟨r',h5,?_⟩
  have hle:nsU l' x' p F j.ph.length<=nsN j R:=by
   have:=hU x'.ph;unfold nsU;rw[e3]
   split<;>omega
  have hm:=yDv hle hD0;rw[yGa,yGb];omega
def AQ {b:List Int} (hb:BY b) {p:It×Nat} (h:prF b=some p):(1<=p.2/\p.2<=b.length)/\(b.length<=100000->ItK p.1):=by
 unfold prF at h;split at h
 ·cases h
 rename_i h0;split at h
 ·cases h;exact⟨⟨yAb _,by dsimp only;omega⟩,λ_=>⟨fP,yAp _,by dsimp only;omega,by dsimp only;omega⟩⟩
 split at h
 ·cases h
 split at h
 ·cases h;exact⟨⟨yAb _,by dsimp only;omega⟩,λ_=>⟨fP,yAp _,by dsimp only;omega,by dsimp only;omega⟩⟩
 split at h
 ·cases h
 split at h
 ·cases h;exact⟨⟨yAb _,by dsimp only;omega⟩,λ_=>⟨fP,yAp _,by dsimp only;omega,by dsimp only;omega⟩⟩
 split at h
 ·cases h;exact⟨⟨by dsimp only;omega,by dsimp only;omega⟩,λ_=>⟨fP,yAp _,by dsimp only;omega,by dsimp only;omega⟩⟩
 split at h
 ·cases h;exact⟨⟨by dsimp only;omega,by dsimp only;omega⟩,λ_=>⟨fP,yAp _,by dsimp only;omega,by dsimp only;omega⟩⟩
 ·cases h;rename_i hk;refine⟨⟨by dsimp only;omega,by dsimp only;omega⟩,λhl=>⟨λx hx=>hb x (yBs (yCc hx)),by dsimp only;rw[yA3,yBh];omega,?_,by dsimp only;omega⟩⟩;dsimp only;omega
def jT:Nat->List Int->List (It×Nat)
 |0,_=>[]
 |n+1,b=>match prF b with
  |none=>[]
  |some p=>p::jT n (b.drop p.2)
def zN5 {n:Nat}:∀{b:List Int},BY b->b.length<=100000->∀p∈jT n b,ItK p.1:=by
 induction n with
 |zero=>intro b _ _ p hp;cases hp
 | succ n ih=>
  intro b hb hl p hp;unfold jT at hp;split at hp
  ·cases hp
  ·rename_i q hq;have h:=AQ hb hq
   rcases yBd.1 hp with rfl|hp
   ·exact h.2 hl
   ·exact ih (λx hx=>hb x (yBs hx)) LL p hp
def zEa (l:List (It×Nat)):Nat:=(l.map λp=>p.2).sum
def zCg {n:Nat}:∀{b:List Int},BY b->zEa (jT n b)<=b.length:=by
 induction n with
 |zero=>intro b _;exact yAp _
 |succ n ih=>
  intro b hb;unfold jT;split
  ·exact yAp _
  ·rename_i q hq;have h:=AQ hb hq;have h2:=ih (b:=b.drop q.2) (λx hx=>hb x (yBs hx));rw[yBh]at h2;simp only[zEa,yBb,List.sum_cons]at *; omega
def psH (b:List Int):List (Nat×xN):=[(1061,.box [zD yA b])]
def psL (b:List Int):List (List AV):=(jT b.length b).map λp=>[wZ p.1,iA (p.2:Int)]
def zHq (b:List Int):zN 196 [zD yA b] [] (.fn 217 [.ptr 1061 0 0]) (psH b):=by
 unfold psH;refine eM call196 λF hF=>?_
 repeat' (first|(refine zE ?_;first|refine uS (kW (v:=AV.sl _ _) 1061 Z Z) Z Z Z ?_|refine vW tok Z Z ?_|refine qJ ?_)|(first|refine xS ?_|refine xD ?_|refine vI Z ?_|refine zY Z ?_|refine zS Z ?_|refine xL Z (λhc=>?_) λhc=>?_|refine xA ?_|refine yT ?_|refine xF ?_|refine yW ?_))
 exact zL [1061] Z Z Z Z
def zHr {n:Nat} {b:List Int} (hb:BY b) (hn:b.length<=n):jT n b=match prF b with
  |none=>[]
  |some p=>p::jT (n-1) (b.drop p.2):=by
 cases n with
 |zero=>
  have h0:b=[]:=yBa zB;subst h0;rfl
 |succ n=>rfl
def zEb (b:List Int) (hb:BY b) (hl:b.length<=1000000):ZE prog 217 [.ptr 1061 0 0] (psH b) (psL b):=by
 refine cT func217 Z (λargs w=>call217 args w) Z Z Z (λF y hro hit hY=>?_);unfold psH;refine WW ?_;refine kX (b.length+1) [1061] [1061] [0] [3,1000000,0] Z (λzn T U zs=>∃(r:List Int) (pre:List (It×Nat)) (n:Nat),(jT b.length b=pre++jT n r/\BY r/\r.length<=n/\n<=1000000/\zn=n+1)/\zs=⟨(3,zD yA r)::(1000000,.gh pre.length)::T,U⟩) ?_;(conv=>whnf);refine⟨?_,?_⟩
 ·exact⟨b,[],b.length,⟨rfl,hb,yAb _,hl,rfl⟩,rfl⟩
 rintro zn st ⟨r,pre,n,⟨hp,hr,hrn,hn1,rfl⟩,rfl⟩;have kp:=zOh r hr zB;rw[zHr hr hrn]at hp;have hrl:=zA yA r;unfold psL at hY⊢
 cases h:prF r with
 |none=>
  rw[h]at kp hp;rw[show zT0 none= .tup [.agg [iA 0,iA 0,.sl false []],iA 0,bA false]from Z]at kp;dsimp only at hp;rw[yBc]at hp;refine zV kp ?_;exact dV Z (.inl (by rw[zZ9,hp]))
 | some p=>
  rw[h]at kp hp;obtain⟨hp1,hp2⟩:=(AQ hr h).1;obtain⟨it,k⟩:=p;dsimp only at hp hp1 hp2;rw[show zT0 (some (it,k))= .tup [wZ it,iA (k:Int),bA true]from Z]at kp
  have hys:((jT b.length b).map λp=>[wZ p.1,iA (p.2:Int)])[pre.length]? =some [wZ it,iA (k:Int)]:=by
   rw[hp,yAa,yA1 (yAb _),yB9];rfl
  have hlen:pre.length<((jT b.length b).map λp=>[wZ p.1,iA (p.2:Int)]).length:=by rw[zZ9,hp];simp
  have hn0:1<=n:=by omega
  generalize ((jT b.length b).map λp=>[wZ p.1,iA (p.2:Int)])=xs at *;unfold wZ at*
  (repeat' (first|refine uL ?_|((first|apply xM|apply wA)<;>intro hc)|(refine zE ?_;refine xT ?_;first|(first|(refine vS 102 ?_;first|refine wG (zH (kp) Z Z Z Z Z) Z ?_|refine uS (zH (kp) Z Z Z Z Z) Z Z Z ?_|refine ZU (zH (kp) Z Z Z Z Z) Z Z Z ?_))|(refine CS ?_;refine RV hit hY Z Z hys Z Z Z ?_ ?_))|(refine zE ?_;first|refine SM ?_)|fail))
  ·refine⟨n-1+1,zB,r.drop k,pre++[(it,k)],n-1,⟨by rw[hp,yA7];rfl,λx hx=>hr x (yBs hx),by rw[yBh];omega,zB,rfl⟩,?_⟩;rw[yAd,yC3];rfl
  ·exact dV Z (.inr zB)
end Av
end Go.Proofs.YteajjdidebfcjaaGreat
