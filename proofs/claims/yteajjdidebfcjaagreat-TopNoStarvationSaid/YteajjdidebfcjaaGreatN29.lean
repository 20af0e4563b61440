/- Part 29. -/
import Derived.Test.YteajjdidebfcjaaGreatN28
namespace Go.Proofs.YteajjdidebfcjaaGreat
namespace Av
open Tryz
set_option linter.all false
set_option maxRecDepth 4000
set_option maxHeartbeats 8000000
section
variable {P:Program} {K0:List Nat} {F:Fr K0} {m:Nat} {ops:Array Oper} {rest:List Oper} {fs:List FP} {tm:List (Nat×AV)} {h:List (Nat×xM)}
def zAh {Q:List FP->St->Prop} (t K sz:Nat) (hv:zG tm t= .s (.slice none 0 0)) (hK:(zC h K).isNone=true) (hp:Nat.ble 1 sz=true) (h1:zX P F m ops false rest ⟨(t,.ref K 0 0)::tm,(K,.arr sz [] true)::h⟩ fs Q):zX P F m ops false rest ⟨tm,h⟩ fs Q:=
 ⟨λa w R=>h1.run a w (xY.virt R t K sz hv hK hp)⟩
end
def zUj (m:Ms) (h:NQ m):zO 194 [yB m] [] (bA false) []:=by
 obtain⟨k,tk,ar,da⟩:=m;obtain⟨h1,h2⟩:=h;dsimp only at h1 h2;subst h1;have c:=zUr h2;rw[show yB ⟨k,[],ar,da⟩= .agg [iA k,zD yA [],zD iA ar,zD yA da]from Z]at *; refine eM call194 λF hF=>?_
 refine zW c ?_;exact zJ
def zYa (l:List Ms) (hl9:l.length<=1000000) (h:∀m∈l,NQ m):zO 216 [zD yB l,.fn 194 []] [] (iA (-1)) []:=by
 have hl:=zA yB l;refine eM call216 λF hF=>?_
 refine WW ?_;refine yO (l) [] [] [0,1,7] [8,0,1,7] Z (λi pre T U=>⟨(8,iA i)::T,U⟩) ?_;(conv=>whnf);refine⟨by rfl,?_,?_⟩
 ·intro i pre x post hx hi;have hy:=xL yB hx hi;have hlt:=yQ hx hi;have c:=zUj x (h x (wZ hx));clear hx;refine zW c ?_;rfl
 ·(refine WW ?_)
  exact zJ
def zUk (l:List Ms) (hl9:l.length<=1000000) (h:∀m∈l,NQ m):zO 193 [zD yB l,.fn 194 []] [] (zD yB l) []:=by
 have c:=zYa l hl9 h;have hl:=zA yB l;refine eM call193 λF hF=>?_
 refine zW c ?_;exact zJ
def EG (l:List Ms) (hl9:l.length<=1000000) (h:∀m∈l,NQ m):zO 158 [zD yB l] [] (zD yB l) []:=by
 have c:=zUk l hl9 h;have hl:=zA yB l;refine eM call158 λF hF=>?_
 refine zW c ?_;exact zJ
def zH9 (y:Int):0<=XV y/\XV y<256:=by
 unfold XV;have e:IntKind.u8.wrap y=y % 256:=by simp[IntKind.wrap,IntKind.signed,IntKind.bits]
 rw[e];omega
def zIa {l:List Vw} (h:∀v∈l,VwB v):BY (NZ l):=λx hx=>by
 unfold NZ at hx;obtain⟨y,hy,hx⟩:=yDt.1 hx;obtain⟨v,hv,rfl⟩:=yCc.1 hy;have hb:=h v hv;have hc:=GQ hb.c v.co.length (yBg _) hb.n;have hp:=XW v.co.length hb.n;have hs:=zZq (n:=kH v.co v.co.length) hc.1 zB;unfold vwF at hx;simp only[yD0,yDk,yCk,yCc]at hx
 rcases hx with rfl|rfl|rfl|⟨y,_,rfl⟩
 ·unfold hdF
  split<;>split<;>omega
 ·omega
 ·exact zH9 _
 ·exact zH9 _
def zUl (l:List Rq) (v:List Vw) (now:Int) (n:Nat):BY (cqL l v now n):=λx hx=>by
 unfold cqL at hx;obtain⟨i,_,rfl⟩:=yCc.1 hx;unfold cqF;split
 ·have:=zNo ((l.getD (i/3) default).legs.getD (i % 3) default) v now;omega
 ·omega
def zS1 (d:xH) (hq:0<=d.rg.ag.req/\d.rg.ag.req<=4) (v:List Vw) (now:Int) (n0:0<=now) (n1:now<=1073741824) (hn:v.length<=4) (hb:∀w∈v,VwB w):NQ (MX d v now):=by
 have h1:=UI hb;have h2:=fZ [now];have h3:(cqL d.rq v now (d.rg.ag.req.toNat*3)).length=d.rg.ag.req.toNat*3:=by simp[cqL]
 refine⟨rfl,by dsimp only[MX,stM];omega,.cons zB .nil,by simp[MX,stM],?_,.inl Z,.inl ⟨rfl,rfl⟩,?_⟩
 ·intro x hx
  rcases yBy.1 hx with hx|hx
  ·exact zIa hb x hx
  ·exact zUl _ _ _ _ x hx
 ·show(([now].map fL).flatten).length+1+(NZ v++cqL d.rq v now (d.rg.ag.req.toNat*3)).length<=200
  rw[yBf];simp only[yBp,yCr]at h2;omega
def PA (now:Int) (v:List Vw):Ms:=⟨21,[],[now],NZ v⟩
def zYb (v:List Vw) (now:Int) (n0:0<=now) (n1:now<=1073741824) (hn:v.length<=4) (hb:∀w∈v,VwB w):NQ (PA now v):=by
 have h1:=UI hb;have h2:=fZ [now];refine⟨rfl,by dsimp only[PA];omega,.cons zB .nil,by simp[PA],zIa hb,.inl Z,.inl ⟨rfl,rfl⟩,?_⟩
 show(([now].map fL).flatten).length+1+(NZ v).length<=200
 simp only[yBp,yCr]at h2;omega
def zUm (now:Int) (v:List Vw) (hn:v.length<=1000) (hb:∀w∈v,VwB w):zO 159 [iA now,zD vQ v] [] (yB (PA now v)) []:=by
 have kr:=zNn v hn hb;have hrl:=zA yA (NZ v);refine eM call159 λF hF=>?_
 refine zW kr ?_;refine zH [] Z Z ?_ Z;exact yB8 (λz=>AV.agg [iA 21,AV.sl false [],AV.sl false [iA now],AV.sl false z]) yBj
def aE (e:En):List Int:=[e.ag,e.ki,e.co]
def trM (now:Int) (en:List En):Ms:=⟨18,[],now::((en.take 16).map aE).flatten,[]⟩
def yAg (now:Int) (n0:0<=now) (n1:now<=1073741824) (en:List En) (h:∀e∈en,EnK e):NQ (trM now en):=by
 have hl:(en.take 16).length<=16:=by rw[yB4];omega
 have hm:∀e∈en.take 16,EnK e:=λe he=>h e (yDb he)
 unfold trM;generalize en.take 16=l at*
 have h3:((l.map aE).flatten).length=3*l.length:=by
  clear hm hl
  induction l with
  |nil=>rfl
  |cons e l ih=>rw[yCh,yDv,yBf,ih,yBp];show 3+_=_;omega
 have hz:((((l.map aE).flatten).map fL).flatten).length<=4*l.length:=by
  clear h3 hl
  induction l with
  |nil=>simp
  |cons e l ih=>
   have ih:=ih λx hx=>hm x MT
   have he:=hm e zQ;have e1:=EL (n:=e.ag) (by have:=he.a;omega);have e2:=zYf (n:=e.ki) (by have:=he.k;omega);have e3:=EL (n:=e.co) (by have:=he.c;omega);rw[yCh,yDv,yBn,yGw,yBf,yBp];simp only[aE,yCh,yD2,yDv,List.flatten_nil,yBf,yCd];omega
 have e0:=(jV now).2;refine⟨rfl,by dsimp only;omega,?_,by dsimp only;rw[yBp];omega,λx hx=>(by cases hx),.inr Z,.inr ⟨.inr Z,(l.length:Int),?_,zB,by show(0:Int)<=_;omega,by show _<=(16:Int);omega⟩,?_⟩
 ·refine .cons zB ?_;intro x hx;obtain⟨y,hy,hx⟩:=yDt.1 hx;obtain⟨e,he,rfl⟩:=yCc.1 hy;have hk:=hm e he;have h1:=hk.a;have h2:=hk.k;have h4:=hk.c;simp only[aE,yCk,yFo,yGp]at hx;omega
 ·show((now::(l.map aE).flatten).length:Int)=1+3*(l.length:Int)
  rw[yBp];omega
 ·show(((now::(l.map aE).flatten).map fL).flatten).length+1+0<=200
  rw[yCh,yDv,yBf];omega
def tlF (d:xH) (vw:List Vw) (now:Int) (k:Nat) (R:List (List Ms)) (en:List En):List Ms:=(R.getD k []++[MX d vw now])++(if d.au.getD k default=true then [trM now en]else [])
def zS2 (d:xH) (hq:0<=d.rg.ag.req/\d.rg.ag.req<=4) (v:List Vw) (now:Int) (n0:0<=now) (n1:now<=1073741824) (hn:v.length<=4) (hb:∀w∈v,VwB w) (k:Nat) (R:List (List Ms)) (hR:∀l∈R,l.length<=1000/\∀m∈l,NQ m) (hk:k<R.length) (en:List En) (h:∀e∈en,EnK e):(tlF d v now k R en).length<=1002/\∀m∈tlF d v now k R en,NQ m:=by
 have hr:R.getD k []∈R:=by
  rw[yBl,yBu hk];exact yD1 _
 obtain⟨h1,h2⟩:=hR _ hr;unfold tlF;refine⟨?_,λm hm=>?_⟩
 ·rw[yBf,yBf];split
  ·simp only[yBp,yCr];omega
  ·simp only[yBp,yCr];omega
 ·rcases yBy.1 hm with hm|hm
  ·rcases yBy.1 hm with hm|hm
   ·exact h2 m hm
   ·rw[yCf.1 hm];exact zS1 d hq v now n0 n1 hn hb
  ·split at hm
   ·rw[yCf.1 hm];exact yAg now n0 n1 en h
   ·cases hm
def yAh (en:List En):en.take (min ((en.map gF).length:Int) 16).toNat=en.take 16:=by
 rw[yBe];by_cases h:en.length<=16
 ·rw[yBo zB,yBo zB]
 ·congr 1
  omega
theorem zOx (y:Cy) (n0:0<=y.now) (n1:y.now<=1073741824) (a k s:Nat) (ha:a<y.ds.length) (hd:fY (y.ds.getD a default)) (hq:0<=(y.ds.getD a default).rg.ag.req/\(y.ds.getD a default).rg.ag.req<=4) (hn:y.vw.length<=4) (hb:∀w∈y.vw,VwB w) (hk:k<(y.ds.getD a default).au.length)
  (R:List (List Ms)) (hR:∀l∈R,l.length<=1000/\∀m∈l,NQ m) (hkR:k<R.length) (en:List En) (he:∀e∈en,EnK e) (hel:en.length<=100000):
  zO 157 [uB y,plA a k s,zD ZF R,zD gF en] [] (zD yB (tlF (y.ds.getD a default) y.vw y.now k R en)) []:=by
 have ht:=zS2 _ hq y.vw y.now n0 n1 hn hb k R hR hkR en he;have kv:=EG (tlF (y.ds.getD a default) y.vw y.now k R en) zB ht.2;have ks:=zNt (y.ds.getD a default) hd hq y.vw y.now zB hb;have hyd:=zM zI y.ds a ha;have hyr:=zM ZF R k hkR;have hyk:=zM bA (y.ds.getD a default).au k hk;have hlr:=zA ZF R;have hle:=zA gF en;have hlk:=zA bA (y.ds.getD a default).au;have hR1:=(hR _ (zS R k hkR)).1;have eR:R.getD k default=R.getD k []:=rfl;unfold uB aI;unfold tlF at kv⊢;rw[eR]at hyr hR1;generalize MX (y.ds.getD a default) y.vw y.now=st at *;generalize R.getD k []=rp at *;have hlp:=zA yB rp;unfold ZF zD at hyr;generalize y.ds.getD a default=d at *;unfold zI wF at hyd ks;refine eM call157 λF hF=>?_
 refine zW ks ?_;refine zAh 25 1001 4 Z Z Z ?_;generalize d.au.getD k default=b at *;cases b
 ·have e1:zD yB ((rp++[st])++if false=true then [trM y.now en]else [])= .sl false (rp.map yB++[yB st]):=by
   rw[yBc yBw,yCd];unfold zD;rw[yBn];rfl
  rw[e1]at kv⊢
  (have zc1:=ks;(repeat' (first|refine uC ?_|((first|apply xE|apply xV)<;>intro hc)|(refine zE ?_;first|refine SM ?_)|fail))<;>clear zc1)
  (refine uF 158 ?_;refine uO [] [85] Z ?_;(conv=>whnf);(try simp only[yCg,yBj]);first|refine wK (zL (kv) Z Z Z Z Z) Z ?_|refine qA (zL (kv) Z Z Z Z Z) Z Z Z ?_|refine XZ (zL (kv) Z Z Z Z Z) Z Z Z ?_)
  (repeat' (first|refine uC ?_|((first|apply xE|apply xV)<;>intro hc)|(refine zE ?_;first|refine SM ?_)|fail))
  exact zJ
 ·have e1:zD yB ((rp++[st])++if true=true then [trM y.now en]else [])= .sl false ((rp.map yB++[yB st])++[yB (trM y.now en)]):=by
   rw[yBd Z];unfold zD;rw[yBn,yBn];rfl
  rw[e1]at kv⊢
  (have zc1:=ks;(repeat' (first|refine uC ?_|((first|apply xE|apply xV)<;>intro hc)|(refine zE ?_;first|refine SM ?_)|fail))<;>clear zc1)
  rw[yAh];have hl16:(en.take 16).length<=16:=by rw[yB4];omega
  have hl17:=zA gF (en.take 16);rw[show yB (trM y.now en)= .agg [iA 18,.sl false [],.sl false ((y.now::((en.take 16).map aE).flatten).map iA),.sl false []]from Z]at *; generalize en.take 16=l16 at *;refine uK 57 Z ?_;refine yO (l16) [11,57,1001] [1001] [10,11,63,64] [65,10,11,63,64] Z (λi pre T U=>⟨(65,iA i)::T,(11,.box [iA 18,.s (.slice none 0 0),.ref 57 0 ((y.now::(pre.map aE).flatten).map iA).length,.s (.slice none 0 0)])::(57,.arr 1 ((y.now::(pre.map aE).flatten).map iA) true)::U⟩) ?_;(conv=>whnf);refine⟨by rfl,?_,?_⟩
  ·intro i pre x post hx hi;have hy:=xL gF hx hi;have hlt:=yQ hx hi
   have hpl:((pre.map aE).flatten).length=3*pre.length:=by
    clear hx hi hy
    induction pre with
    |nil=>rfl
    |cons e l ih=>rw[yCh,yDv,yBf,ih,yBp];show 3+_=_;omega
   have hpm:=zA iA (y.now::(pre.map aE).flatten);rw[yBp]at hpm;rw[yBn,yGw];rw[show(y.now::((pre.map aE).flatten++([x].map aE).flatten)).map iA=(y.now::(pre.map aE).flatten).map iA++[iA x.ag,iA x.ki,iA x.co] by simp[aE]];unfold gF MZ at hy;clear hx kv ks e1;generalize (y.now::(pre.map aE).flatten).map iA=X at *;refine WW ?_;rfl
  ·refine kG [11,1001] [10,11,63,64,65] Z ?_
   (conv=>whnf)
   simp only[yCg,yBj]
   (repeat' (first|refine bW ?_|((first|apply xE|apply xV)<;>intro hc)|(refine zE ?_;first|(refine yR ?_;refine TR 82 Z Z Z ?_;refine qH tok Z Z ?_))|refine SB ?_|fail))
   (refine uF 158 ?_;refine uO [] [85] Z ?_;(conv=>whnf);(try simp only[yCg,yBj]);first|refine wK (zL (kv) Z Z Z Z Z) Z ?_|refine qA (zL (kv) Z Z Z Z Z) Z Z Z ?_|refine XZ (zL (kv) Z Z Z Z Z) Z Z Z ?_)
   (repeat' (first|refine uC ?_|((first|apply xE|apply xV)<;>intro hc)|(refine zE ?_;first|refine SM ?_)|fail))
   exact zJ
structure WM (y:Cy):Prop where
 v:RU y.c
 rf:y.rf=false
 n0:0<=y.now
 dl:y.ds.length=y.c.ags.length
 di:∀d∈y.ds,uW y.c d
 dg:∀a,a<y.ds.length->(y.ds.getD a default).rg.ag=y.c.ags.getD a default
 sc:∀d∈y.ds,FC y.now d.rq
 gl:y.sg.length=y.c.js.length
 sl:y.sv.length=y.c.js.length
 tl:y.st.length=y.c.js.length
 wl:y.vw.length=y.c.js.length
 wb:∀w∈y.vw,VwB w
 j:∀k,k<y.c.js.length->JI (y.c.js.getD k default) (y.sg.getD k default) (y.sv.getD k default) y.now
def cE {α:Type} [Inhabited α] {l:List α} {x:α} (h:x∈l):∃i,i<l.length/\l.getD i default=x:=by
 obtain⟨i,hi,e⟩:=yEo.1 h;exact⟨i,hi,by rw[yBl,yBu hi];exact e⟩
theorem WM.b {y:Cy} (h:WM y):CyB y:=by
 have ha:=h.v.a;have hj:=h.v.j;have h1:=h.dl;have h2:=h.gl;have h3:=h.sl;have h4:=h.tl;have h5:=h.wl;refine⟨zB,λd hd=>(h.di d hd).bd,zB,λs hs=>?_,zB,λs hs=>?_,zB,zB,λw hw=>?_⟩
 ·obtain⟨i,hi,rfl⟩:=cE hs;have J:=h.v.jv _ (zS y.c.js i zB);have C:=(h.j i zB).c;have h6:=J.n;have h7:=C.n;have h8:=C.m;omega
 ·obtain⟨i,hi,rfl⟩:=cE hs;have J:=h.v.jv _ (zS y.c.js i zB);have h6:=J.n;have h7:=(h.j i zB).n;omega
 ·have:=h.wb w hw;have h6:=this.n;have h7:=this.m;omega
def WN (c:Cf) (sg:List Sg) (ks:List Int):List Sg:=ks.foldl (λs x=>s.set x.toNat (srF (c.js.getD x.toNat default) (s.getD x.toNat default))) sg
def zIb (c:Cf) (sg:List Sg) (ks:List Int) (x:Int):WN c sg (ks++[x])=(WN c sg ks).set x.toNat (srF (c.js.getD x.toNat default) ((WN c sg ks).getD x.toNat default)):=by
 unfold WN;rw[yF0];rfl
def UP {α:Type} [Inhabited α] (l:List α) (i j:Nat) (x:α) (hj:j<l.length):(l.set i x).getD j default=if i=j then x else l.getD j default:=by
 rw[yBl,yDe,yBl];by_cases h:i=j
 ·subst h;rw[yBd Z,yBd hj,yBd Z];rfl
 ·rw[yBc h,yBc h]
theorem LD {c:Cf} (hv:RU c) {sv:List Sv} {now:Int}:∀(ks:List Int) (sg:List Sg),sg.length=c.js.length->(∀k,k<c.js.length->JI (c.js.getD k default) (sg.getD k default) (sv.getD k default) now)->(WN c sg ks).length=c.js.length/\∀k,k<c.js.length->JI (c.js.getD k default) ((WN c sg ks).getD k default) (sv.getD k default) now
 | [],sg,hl,h=>⟨hl,h⟩
 |x::ks,sg,hl,h=>by
  have e:WN c sg (x::ks)=WN c (sg.set x.toNat (srF (c.js.getD x.toNat default) (sg.getD x.toNat default))) ks:=rfl;rw[e];refine LD hv ks _ (by rw[yC3];exact hl) λk hk=>?_
  rw[UP _ _ _ _ zB];split
  ·rename_i hx;rw[hx];have H:=h k hk;exact⟨yAn (hv.jv _ (zS c.js k hk)) H.c,H.n,H.e,H.g⟩
  ·exact h k hk
def zCy (D:Nat->Sg×Sv) (l:List Sg) (n k:Nat) (h1:k<n) (h2:k<l.length):(NS D l n).getD k default=(D k).1:=by
 unfold NS;rw[yBl,uP,yBd h2,yBd h1];rfl
def zCz (D:Nat->Sg×Sv) (l:List Sv) (n k:Nat) (h1:k<n) (h2:k<l.length):(NT D l n).getD k default=(D k).2:=by
 unfold NT;rw[yBl,uP,yBd h2,yBd h1];rfl
def stU (js:List Jn) (D:Nat->Sg×Sv) (n:Nat):List Vw:=(List.range n).map λk=>LJ (js.getD k default) (D k).1 (D k).2
def zOy (js:List Jn) (D:Nat->Sg×Sv) (n:Nat):stW js D n n=(stU js D n).map vQ:=by
 unfold stW stU;rw[eI,yGh];rfl
def RC (y:Cy) (R:Nat->DR):Nat->Sg×Sv:=aF y.c (WN y.c y.sg (ZI R y.ds.length)) y.sv y.st (SF (y.now+1) y.ds R y.ds.length) (y.now+1)
def qO (y:Cy) (R:Nat->DR):Cy:=
 ⟨y.c,false,y.now+1,SF (y.now+1) y.ds R y.ds.length,NS (RC y R) (WN y.c y.sg (ZI R y.ds.length)) y.c.js.length,NT (RC y R) y.sv y.c.js.length,JM y.st y.c.js.length,stU y.c.js (RC y R) y.c.js.length⟩
def TkR (y:Cy) (ins:List In) (R:Nat->DR):Prop:=∀a,a<y.ds.length->DtP y.c (y.now+1) (GR (y.ds.getD a default) (y.now+1)) (owI y.c ins a) (R a)/\zO 94 [wN y.c,zI (GR (y.ds.getD a default) (y.now+1)),zD jR (owI y.c ins a),iA (y.now+1)] [] (drT (R a)) []
def ZG {now:Int} {ds:List xH} {R:Nat->DR} {a:Nat} (ha:a<ds.length):(SF now ds R ds.length).getD a default=(R a).d:=by
 unfold SF;rw[eI,yBl,yBh,yCe ha];rfl
def cT (now:Int) (ds:List xH) (R:Nat->DR):(SF now ds R ds.length).length=ds.length:=by simp[SF]
def ZH {now:Int} {ds:List xH} {R:Nat->DR} {d:xH} (h:d∈SF now ds R ds.length):∃a,a<ds.length/\d=(R a).d:=by
 obtain⟨i,hi,rfl⟩:=cE h;rw[cT]at hi;exact⟨i,hi,ZG hi⟩
def zIc (l:List Rq) (now:Int):YR l (zLb l now):=YR.filter _ _
noncomputable def dtR (y:Cy) (ins:List In) (a:Nat):DR:=YU y.c (GR (y.ds.getD a default) (y.now+1)) (owI y.c ins a) (y.now+1)
def zYc {y:Cy} (h:WM y) (hn:y.now<1000000000) {ins:List In} (hil:(ins.length:Int)=jP y.c.ags y.c.ags.length) (hin:∀i∈ins,InS i):TkR y ins (dtR y ins):=λa ha=>by
 have hI:=h.di _ (zS y.ds a ha);obtain⟨b1,b2,_⟩:=zZ5 hI (y.now+1);have hau:=hI.au;rw[h.dg a ha]at hau;have hs:=(h.v.av _ (zS y.c.ags a (by have:=h.dl;omega))).e;have n0:=h.n0
 exact zE7 y.c _ b1 (owI y.c ins a) (by unfold owI owP;rw[yBe,yCy];show _=(y.ds.getD a default).au.length;omega) (λi hi=>by
  unfold owI owP at hi;obtain⟨k,_,rfl⟩:=yCc.1 hi;by_cases hk:(jP y.c.ags a).toNat+k<ins.length
  ·exact hin _ (zS ins _ hk)
  ·rw[yBl,yB6 zB]
   exact⟨yBt _,λx hx=>by cases hx⟩) (y.now+1) zB zB
def LE {y:Cy} (h:WM y) {ins:List In} {R:Nat->DR} (hR:TkR y ins R):WM (qO y R):=by
 have n0:=h.n0;have hg:=LD h.v (sv:=y.sv) (now:=y.now) (ZI R y.ds.length) y.sg h.gl h.j
 have hD:∀k,k<y.c.js.length->JI (y.c.js.getD k default) (RC y R k).1 (RC y R k).2 (y.now+1):=λk hk=>by
  have J:=h.v.jv _ (zS y.c.js k hk);have H:=hg.2 k hk;exact yAk J zB ⟨H.c,H.n,λe he=>by have:=H.e e he;omega,H.g⟩ _ _ _
 have hsl:=h.sl;refine⟨h.v,rfl,by show 0<=y.now+1;omega,(cT ..).trans h.dl,λd hd=>?_,λa ha=>?_,λd hd=>?_,?_,?_,?_,?_,λw hw=>?_,λk hk=>?_⟩
 ·obtain⟨a,ha,rfl⟩:=ZH hd;exact(hR a ha).1.i
 ·have ha':a<y.ds.length:=by rw[<-cT (y.now+1) y.ds R];exact ha
  show((SF (y.now+1) y.ds R y.ds.length).getD a default).rg.ag=_
  rw[ZG ha',(hR a ha').1.ag];exact h.dg a ha'
 ·obtain⟨a,ha,rfl⟩:=ZH hd;refine(hR a ha).1.sc ?_;exact FC.of zB ((h.sc _ (zS y.ds a ha)).mono zB) (zIc _ _)
 ·show(NS _ _ _).length=_
  unfold NS;rw[vA];exact hg.1
 ·show(NT _ _ _).length=_
  unfold NT;rw[vA];exact h.sl
 ·show(JM _ _).length=_
  unfold JM;rw[vA];exact h.tl
 ·show(stU _ _ _).length=_
  simp[stU,qO]
 ·unfold qO stU at hw;obtain⟨k,hk,rfl⟩:=yCc.1 hw;exact zS3 _ (h.v.jv _ (zS y.c.js k (yBz.1 hk))) _ _
 ·show JI _ ((NS (RC y R) (WN y.c y.sg (ZI R y.ds.length)) y.c.js.length).getD k default) ((NT (RC y R) y.sv y.c.js.length).getD k default) _
  have hk':k<y.c.js.length:=hk;rw[zCy _ _ _ _ hk' (by rw[hg.1];exact hk'),zCz _ _ _ _ hk' zB];exact hD k hk
def tdT (y:Cy) (ins:List In) (R:Nat->DR) (n a k:Nat):List Ms:=if(ins.getD ((jP y.c.ags a).toNat+k) default).opn=true then tlF (y.ds.getD a default) y.vw y.now k (R a).R (NR R n)else []
def AW (T:Nat->Nat->List Ms) (a k:Nat):List (List Ms):=(List.range k).map (T a)
def FA (c:Cf) (T:Nat->Nat->List Ms) (n:Nat):List (List Ms):=((List.range n).map λa=>AW T a (c.ags.getD a default).ses.toNat).flatten
def tdA (T:List (List Ms)) (f:Ms):AV:= .agg [zD ZF T,zD yB [f]]
def zId (T:Nat->Nat->List Ms) (a k:Nat):AW T a (k+1)=AW T a k++[T a k]:=by simp[AW,yDs]
def PB (c:Cf) (T:Nat->Nat->List Ms) (n:Nat):FA c T (n+1)=FA c T n++AW T n (c.ags.getD n default).ses.toNat:=by simp[FA,yDs]
theorem RR {c:Cf} (hw:FD c.ags) (T:Nat->Nat->List Ms):∀n,n<=c.ags.length->((FA c T n).length:Int)=jP c.ags n
 |0,_=>rfl
 |n+1,hn=>by
  have ih:=RR hw T n zB;have:=hw.at (i:=n) zB;rw[PB,yBf]
  show _=jP c.ags n+(c.ags.getD n default).ses
  have:(AW T n (c.ags.getD n default).ses.toNat).length=(c.ags.getD n default).ses.toNat:=by simp[AW]
  omega
theorem RS {c:Cf} (hw:FD c.ags) (T:Nat->Nat->List Ms):∀n,n<=c.ags.length->∀s,s<(FA c T n).length->∃a k:Nat,a<n/\(k:Int)<(c.ags.getD a default).ses/\s=(jP c.ags a).toNat+k/\(FA c T n).getD s []=T a k
 |0,_,s,hs=>by cases hs
 | n+1,hn,s,hs=>by
  have hl:=RR hw T n zB;rw[PB]at hs⊢;by_cases h:s<(FA c T n).length
  ·obtain⟨a,k,h1,h2,h3,h4⟩:=RS hw T n zB s h;refine⟨a,k,zB,h2,h3,?_⟩;rw[yBl,yCi h,<-yBl];exact h4
  ·rw[yBf]at hs;have hp:(AW T n (c.ags.getD n default).ses.toNat).length=(c.ags.getD n default).ses.toNat:=by simp[AW]
   refine⟨n,s-(FA c T n).length,zB,zB,zB,?_⟩;rw[yBl,yB9 zB];unfold AW;rw[yBh,yCe zB];rfl
def LsP (ex ey:Bool) (ax ay sx sy gx gy ix iy:Int):Prop:=(ex=true/\ey=false)∨(ex=ey/\(ay<ax∨(ax=ay/\(sx<sy∨(sx=sy/\(gx<gy∨(gx=gy/\ix<iy)))))))
def UQ (per cap:Int) (es:List Int) (now:Int) (x y:Cl):kS per cap es now x y=true↔LsP (gK x.k) (gK y.k) (aP per cap es now x) (aP per cap es now y) (gL es x.ph x.si) (gL es y.ph y.si) x.ag y.ag x.id y.id:=by
 unfold kS LsP;generalize gK x.k=ex;generalize gK y.k=ey;generalize aP per cap es now x=ax;generalize aP per cap es now y=ay;generalize gL es x.ph x.si=sx;generalize gL es y.ph y.si=sy
 cases ex<;>cases ey<;>simp only[yEg,yF2,yGo,yGb,yF1,reduceCtorEq,and_true,true_and,yHg,yHr,yGp,false_or,true_or,or_true,iff_true,iff_false,yGe]
 all_goals
  by_cases h1:ax=ay
  ·rw[yBc zB];by_cases h2:sx=sy
   ·rw[yBc zB];by_cases h3:x.ag=y.ag
    ·rw[yBc zB,yBi];omega
    ·rw[yBd zB,yBi];omega
   ·rw[yBd zB,yBi];omega
  ·rw[yBd zB,yBi];omega
def LF (per cap:Int) (es:List Int) (now:Int) (x:Cl):kS per cap es now x x=false:=by
 rw[yEh];intro h;rw[UQ]at h;unfold LsP at h
 cases gK x.k<;>simp at h
def EH {per cap:Int} {es:List Int} {now:Int} {x y z:Cl} (h1:kS per cap es now x y=true) (h2:kS per cap es now y z=true):kS per cap es now x z=true:=by
 rw[UQ]at *; unfold LsP at *;generalize gK x.k=ex at *;generalize gK y.k=ey at *;generalize gK z.k=ez at*
 cases ex<;>cases ey<;>cases ez<;>simp at h1 h2⊢ <;>omega
theorem LG (g:Cf) (s:Sv) (now:Int) (xs:List Cl):∀i k,k<i->IB g.lock s.en now (xs.getD k default).ph (xs.getD k default).k=false->0<=uE g s now xs i/\kS g.per g.cap s.en now (xs.getD k default) (xs.getD (uE g s now xs i).toNat default)=false
 |0,_,h,_=>absurd h (yDp _)
 | i +1,k,h,hk=>by
  have ih:=LG g s now xs i k;have hs:=PK g s now xs i;by_cases h1:IB g.lock s.en now (xs.getD i default).ph (xs.getD i default).k=true
  ·rw[yBd h1]at hs;rw[hs];refine ih ?_ hk;by_cases e:k=i
   ·subst e;rw[hk]at h1;cases h1
   ·omega
  ·rw[yBc h1]at hs;by_cases h2:uE g s now xs i<0
   ·rw[yBd h2]at hs;rw[hs,yB5];refine⟨zB,?_⟩;by_cases e:k=i
    ·subst e;exact LF ..
    ·exact absurd (ih zB hk).1 zB
   ·rw[yBc h2]at hs;by_cases h3:kS g.per g.cap s.en now (xs.getD i default) (xs.getD (uE g s now xs i).toNat default)=true
    ·rw[yBd h3]at hs;rw[hs,yB5];refine⟨zB,?_⟩;by_cases e:k=i
     ·subst e;exact LF ..
     ·rw[yEh];intro h4;have h5:=(ih zB hk).2;rw[EH h4 h3]at h5;cases h5
    ·rw[yBc h3]at hs;rw[hs];refine⟨zB,?_⟩;by_cases e:k=i
     ·subst e;simpa using h3
     ·exact(ih zB hk).2
def zIe {g:Cf} {s:Sv} {now F:Int} {xs:List Cl} {k:Nat} (hk:k<xs.length) (hem:∀x∈xs,gK x.k=false) (hc:0<=(xs.getD k default).k) (hp:1<=g.per) (h0:0<=g.cap)
  (hs:gL s.en (xs.getD k default).ph (xs.getD k default).si<=F) (h1:g.lock<now-F) (h2:g.cap*g.per<=now-F):
  ∃i,i<xs.length/\uE g s now xs xs.length=(i:Int)/\gL s.en (xs.getD i default).ph (xs.getD i default).si<=F:=by
 have he:∀i,i<xs.length->gK (xs.getD i default).k=false:=λi hi=>hem _ (zS xs i hi)
 have hlk:IB g.lock s.en now (xs.getD k default).ph (xs.getD k default).k=false:=by
  unfold IB;rw[he k hk];have:kK s.en (xs.getD k default).ph<=F:=by unfold gL at hs;omega
  generalize kK s.en (xs.getD k default).ph=e at *;rw[yBm (show¬now-e<=g.lock by omega),yEx,yEx]
 obtain⟨b1,b2⟩:=LG g s now xs xs.length k hk hlk;have hb:=cG g s now xs xs.length;refine⟨(uE g s now xs xs.length).toNat,zB,zB,?_⟩;have hb':(uE g s now xs xs.length).toNat<xs.length:=by omega
 generalize (uE g s now xs xs.length).toNat=i at *;have e1:=he k hk;have e2:=he i hb';clear hlk he hem hb b1;generalize xs.getD k default=x at *;generalize xs.getD i default=y at *;rw[yEh]at b2;rw[yEg,UQ]at b2;unfold LsP aP at b2;rw[e1,e2]at b2;simp only[yGe,yGo,yHr,false_or,true_and]at b2
 have lx:DF g.per g.cap s.en now x.ph x.k x.si=g.cap:=by
  unfold DF;have:g.cap<=(now-gL s.en x.ph x.si)/g.per:=(Int.le_ediv_iff_mul_le zB).2 zB;omega
 have ly:DF g.per g.cap s.en now y.ph y.k y.si<=g.cap:=by unfold DF;omega
 rw[lx]at b2;omega
theorem JE {α:Type} (p q:α->Bool):∀l:List α,(∀x∈l,p x=true->q x=true)->(l.filter p).length<=(l.filter q).length
 | [],_=>yBg _
 | a::l,h=>by
  have ih:=JE p q l λx hx=>h x MT
  have ha:=h a zQ;simp only[yF7]
  cases hp:p a with
  |false=>
   rw[yBc yBw];split
   ·rw[yBp];omega
   ·exact ih
  |true=>
   rw[yBd Z,yBd (ha hp),yBp,yBp];omega
theorem JF {α:Type} (p q:α->Bool):∀l:List α,(∀x∈l,p x=true->q x=true)->∀a∈l,p a=false->q a=true->(l.filter p).length+1<=(l.filter q).length
 | [],_,_,h,_,_=>by cases h
 | b::l,h,a,ha,h1,h2=>by
  have hle:=JE p q l λx hx=>h x MT
  have hb:=h b zQ;simp only[yF7]
  rcases yCk.1 ha with rfl|ha
  ·rw[h1,h2,yBc yBw,yBd Z,yBp];omega
  ·have ih:=JF p q l (λx hx=>h x MT) a ha h1 h2
   cases hp:p b with
   |false=>
    rw[yBc yBw];split
    ·rw[yBp];omega
    ·exact ih
   |true=>
    rw[yBd Z,yBd (hb hp),yBp,yBp];omega
theorem zIf {α:Type} (p q:α->Bool):∀l:List α,(l.filter λx=>p x||q x).length<=(l.filter p).length+(l.filter q).length
 | []=>yBg _
 |a::l=>by
  have ih:=zIf p q l;simp only[yF7]
  cases p a<;>cases q a<;>simp only[yG3,yEl,yGb,yGo,yGe,yBp]<;>omega
theorem zC0 (a:Int):∀n,((List.range n).filter λq:Nat=>a==(q:Int)).length<=1
 |0=>by simp
 | n+1=>by
  rw[yDs,yEm,yBf];by_cases h:a=(n:Int)
  ·have:((List.range n).filter λq:Nat=>a==(q:Int))=[]:=by
    rw[List.filter_eq_nil_iff];intro q hq;have:=yBz.1 hq;simp only[yCl];omega
   rw[this];simp[h]
  ·have ih:=zC0 a n;have:([n].filter λq:Nat=>a==(q:Int))=[]:=by simp[h]
   rw[this];simpa using ih
theorem zIg (n:Nat):∀l:List Cl,((List.range n).filter λq:Nat=>l.any λx=>x.ph==(q:Int)).length<=l.length
 | []=>by simp
 |x::l=>by
  have h1:=zIf (λq:Nat=>x.ph==(q:Int)) (λq:Nat=>l.any λx=>x.ph==(q:Int)) (List.range n);have h2:=zC0 x.ph n;have h3:=zIg n l;simp only[yHo,yBp];omega
def elF (l:List Cl) (en:List Int) (p:Nat) (F:Int) (q:Nat):Bool:=decide (q≠p)&&l.any λx=>x.ph==(q:Int)&&decide (gL en q x.si<=F)
def elN (l:List Cl) (en:List Int) (p:Nat) (F:Int) (n:Nat) (t:Int):Nat:=((List.range n).filter λq=>elF l en p F q&&decide ((q:Int)≠t)).length
def zYd {l:List Cl} {en:List Int} {p:Nat} {F:Int} {n:Nat} {t:Int} (hp:p<n):elN l en p F n t+1<=n:=by
 have:=JF (λq=>elF l en p F q&&decide ((q:Int)≠t)) (λ_=>true) (List.range n) (λ_ _ _=>rfl) p (yBz.2 hp) (by simp[elF]) Z;have h2:(List.range n).filter (λ_=>true)=List.range n:=yEs.2 λ_ _=>rfl
 rw[h2,yCy]at this;exact this
def zYe {l:List Cl} {en:List Int} {p:Nat} {F:Int} {n:Nat} {t:Int} (hp:p<n) (hx:∃x∈l,x.ph=(p:Int)):elN l en p F n t+1<=l.length:=by
 obtain⟨x,hx,e⟩:=hx
 have h1:=JF (λq=>elF l en p F q&&decide ((q:Int)≠t)) (λq:Nat=>l.any λx=>x.ph==(q:Int)) (List.range n) (λq _ h=>by
  unfold elF at h;simp only[yBq,yCx,yCl]at h⊢;obtain⟨⟨_,y,hy,h,_⟩,_⟩:=h
  exact⟨y,hy,h⟩) p (yBz.2 hp) (by simp[elF]) zTk
 have h2:=zIg n l;unfold elN;omega
def GI (c:Ct) (v:Sv):Prop:=0<=v.ph->0<v.gr->(xN c v.ph.toNat).lamp=1
structure WJ (j:Jn) (s:Sg) (v:Sv):Prop where
 p0: -1<=v.ph
 p1:v.ph<(j.ph.length:Int)
 l:s.lat=true->v.ph= -1
 g:s.lat=false->GI s.c v
def zUn {j:Jn} {s:Sg} {v:Sv} (C:CV j s.c) (hv:v.ph<(j.ph.length:Int)):grB s v=decide (0<=v.ph/\(xN s.c v.ph.toNat).lamp=1):=by
 have hx:=C.n;unfold grB;rw[hx,yFv];simp only[yBq,yBi,yCl];omega
def JG {g:Cf} {j:Jn} {s:Sg} {v:Sv} {l:List Cl} {k now:Int} (h:(cU g j s v l k now).1.lat=false):
  s.lat=false/\(cU g j s v l k now).1.c=bU j s.c (xU g v l now).ph/\(cU g j s v l k now).2=gA (xU g v l now) (grB (cU g j s v l k now).1 (xU g v l now)):=by
 cases hl:s.lat with
 |true=>
  unfold cU at h;rw[yBd hl]at h;rw[hl]at h;cases h
 | false=>
  have e:cU g j s v l k now=if(AZ j s (xU g v l now).ph k).lat=true then(AZ j s (xU g v l now).ph k,kR (xU g v l now) now)else(AZ j s (xU g v l now).ph k,gA (xU g v l now) (grB (AZ j s (xU g v l now).ph k) (xU g v l now))):=by
   unfold cU;rw[yBc (by rw[hl];exact yBw)]
  rw[e]at h⊢;by_cases hx:(AZ j s (xU g v l now).ph k).lat=true
  ·rw[yBd hx]at h;rw[hx]at h;cases h
  ·rw[yBc hx]at h⊢;refine⟨rfl,?_,rfl⟩;unfold AZ;rw[yBc (by rw[hl];exact yBw)]
def zC1 {g:Cf} {v:Sv} {l:List Cl} {now:Int} {n:Nat} (hl:∀c∈l,0<=c.ph/\c.ph<(n:Int)) (h0: -1<=v.ph) (h1:v.ph<(n:Int)): -1<=(xU g v l now).ph/\(xU g v l now).ph<(n:Int):=by
 have h2:=JQ g v l now;have hb:=cG g (uR g v l now) now l l.length;unfold xU;split
 ·rename_i hh;have:=eJ (λc:Cl=>0<=c.ph/\c.ph<(n:Int)) default l (uE g (uR g v l now) now l l.length).toNat hl zB;dsimp only;omega
 ·omega
def zC2 {g:Cf} {v:Sv} {l:List Cl} {now:Int}:((xU g v l now).ph=v.ph/\(xU g v l now).gr=v.gr/\(xU g v l now).en=v.en/\(v.ph= -1∨jS g v l=false))∨(xU g v l now).gr=0:=by
 unfold xU;split
 ·exact .inr Z
 ·rename_i hn;unfold uR at hn⊢;split
  ·exact .inr Z
  ·rename_i h;refine .inl ⟨rfl,rfl,rfl,?_⟩;by_cases hp:v.ph= -1
   ·exact .inl hp
   ·right
    cases ho:jS g v l with
    |false=>rfl
    |true=>exact absurd ⟨hp,ho⟩ h
def PC {g:Cf} {v:Sv} {l:List Cl} {now:Int} (hp:0<=v.ph) (ho:jS g v l=false):xU g v l now=v:=by
 have e:uR g v l now=v:=by
  unfold uR;rw[yBc (λh=>by rw[ho]at h;exact yBw h.2)]
 unfold xU;rw[e,yBc (λh=>by omega)]
def zC3 {j:Jn} {s:Sg} {u:Sv} (C:CV j s.c) (hu:u.ph<(j.ph.length:Int)):(gA u (grB s u)).gr=if 0<=u.ph/\(xN s.c u.ph.toNat).lamp=1 then min u.gr 59+1 else u.gr:=by
 rw[zUn C hu];unfold gA;by_cases h:0<=u.ph/\(xN s.c u.ph.toNat).lamp=1
 ·rw[yBk h,yBd ⟨rfl,zB⟩,yBd h]
 ·rw[yBm h,yBc (λh=>yBw h.1),yBc h]
theorem WJ.step {j:Jn} (J:JV j) {g:Cf} {s:Sg} {v:Sv} {l:List Cl} {k now:Int} (C:CV j s.c) (W:WJ j s v) (hl:∀c∈l,0<=c.ph/\c.ph<(j.ph.length:Int)):WJ j (cU g j s v l k now).1 (cU g j s v l k now).2:=by
 have hx:=zPk J C g v l k now;obtain⟨d0,d1⟩:=zC1 (g:=g) (now:=now) hl W.p0 W.p1
 cases hlt:(cU g j s v l k now).1.lat with
 |true=>
  have:=zU9 hlt;exact⟨zB,zB,λ_=>this,λh=>by rw[hlt]at h;cases h⟩
 | false=>
  obtain⟨o1,o2,o3⟩:=JG hlt;have e2:=(JR (xU g v l now) (grB (cU g j s v l k now).1 (xU g v l now))).2;refine⟨by rw[o3,e2];exact d0,by rw[o3,e2];exact d1,λh=>(by rw[hlt]at h;cases h),λ_ h0 h1=>?_⟩;rw[o3]at h0 h1⊢;rw[e2]at h0⊢;rw[zC3 hx d1]at h1;split at h1
  ·rename_i h;exact h.2
  ·rename_i h
   rcases zC2 (g:=g) (v:=v) (l:=l) (now:=now)with⟨n1,n2,_,_⟩|n
   ·rw[o2];obtain⟨t,ht⟩:∃t:Nat,(xU g v l now).ph=t:=⟨(xU g v l now).ph.toNat,zB⟩;have:=W.g o1 zB zB;rw[<-n1,ht,yB5]at this;rw[ht,yB5];exact RV J C zB this
   ·omega
def Rem (hold:Int) (j:Jn) (c:Ct) (v:Sv) (r:Int):Prop:=
 ∃t:Nat,v.ph=(t:Int)/\t<j.ph.length/\((1<=v.gr/\v.gr<=hold/\(xN c t).lamp=1/\r=hold-v.gr)∨
  (v.gr=0/\∃(k:Nat) (c0:Ct),CV j c0/\c=UX j c0 t k/\(∀i,1<=i->i<=k->(xN (UX j c0 t i) t).lamp≠1)/\(k:Int)<=XY j/\r=XY j-k+hold))
theorem Rem.nn {hold:Int} {j:Jn} {c:Ct} {v:Sv} {r:Int} (h:Rem hold j c v r) (hh:0<=hold):0<=r/\r<=XY j+hold∨XY j<0:=by
 obtain⟨t,_,_,⟨h1,h2,_,h3⟩|⟨_,k,c0,_,_,_,h4,h5⟩⟩:=h<;>omega
def zAi {hold:Int} {j:Jn} (J:JV j) {c0:Ct} (C:CV j c0) {t k:Nat} (ht:t<j.ph.length) (hk:(k:Int)<=XY j) (hn:∀i,1<=i->i<=k->(xN (UX j c0 t i) t).lamp≠1) (hh:1<=hold) {v:Sv} (hv:v.ph=(t:Int))
  (hg:v.gr=if(xN (UX j c0 t (k+1)) t).lamp=1 then 1 else 0):∃r,Rem hold j (UX j c0 t (k+1)) v r/\r<=XY j-k+hold-1:=by
 by_cases hl:(xN (UX j c0 t (k+1)) t).lamp=1
 ·rw[yBd hl]at hg;exact⟨hold-1,⟨t,hv,ht,.inl ⟨zB,zB,hl,zB⟩⟩,zB⟩
 ·rw[yBc hl]at hg
  have hk1:((k+1:Nat):Int)<=XY j:=by
   obtain⟨n,n1,n2⟩:=zYl J C ht;by_cases h:n<=k+1
   ·have h5:=zJl J (zDe J C t n) ht n2 (k+1-n);rw[JX,show n+(k+1-n)=k+1 by omega]at h5;exact absurd h5 hl
   ·omega
  refine⟨XY j-(k+1:Nat)+hold,⟨t,hv,ht,.inr ⟨hg,k+1,c0,C,rfl,λi h1 h2=>?_,hk1,rfl⟩⟩,zB⟩;by_cases e:i=k+1
  ·subst e;exact hl
  ·exact hn i h1 zB
theorem Rem.step {j:Jn} (J:JV j) {g:Cf} {s:Sg} {v:Sv} {l:List Cl} {k now:Int} (C:CV j s.c) (W:WJ j s v) (hl:∀c∈l,0<=c.ph/\c.ph<(j.ph.length:Int)) (h1:1<=g.hold) (h60:g.hold<=60)
  (hlat:(cU g j s v l k now).1.lat=false) (hp:0<=(xU g v l now).ph) (hg0:0<=v.gr):
  (∃r,Rem g.hold j (cU g j s v l k now).1.c (cU g j s v l k now).2 r/\r<=XY j+g.hold)/\(jS g v l=false->∀r,Rem g.hold j s.c v r->∃r',Rem g.hold j (cU g j s v l k now).1.c (cU g j s v l k now).2 r'/\r'<=r-1):=by
 obtain⟨d0,d1⟩:=zC1 (g:=g) (now:=now) hl W.p0 W.p1;obtain⟨o1,o2,o3⟩:=JG hlat;have hx:=zPk J C g v l k now;have e2:=(JR (xU g v l now) (grB (cU g j s v l k now).1 (xU g v l now))).2;have e3:=zC3 hx d1;have hT:=RW J;have hst:=J.st;obtain⟨t,ht⟩:∃t:Nat,(xU g v l now).ph=t:=⟨(xU g v l now).ph.toNat,zB⟩;have htn:t<j.ph.length:=by omega
 have hgo:jS g v l=false->v.gr<g.hold:=λh=>(zFg h).2.1
 have hdn:=zC2 (g:=g) (v:=v) (l:=l) (now:=now);have hsm:=PC (g:=g) (v:=v) (l:=l) (now:=now);rw[o3,o2];rw[o2]at e3;generalize gA (xU g v l now) (grB (cU g j s v l k now).1 (xU g v l now))=x at *;generalize xU g v l now=u at *;rw[ht]at e2 e3⊢;rw[yB5]at e3;have hs1:bU j s.c (t:Int)=UX j s.c t 1:=rfl
 have hgreen:1<=u.gr->u.ph=v.ph->(xN (bU j s.c (t:Int)) t).lamp=1:=λh he=>by
  rcases hdn with⟨n1,n2,_,_⟩|n
  ·have:=W.g o1 zB zB;rw[<-he,ht,yB5]at this;exact RV J C htn this
  ·omega
 constructor
 ·rcases hdn with⟨n1,n2,_,n3⟩|n
  ·by_cases hz:u.gr=0
   ·rw[hz]at e3
    obtain⟨r,r1,r2⟩:=zAi (hold:=g.hold) J C htn (k:=0) zB (λi h1 h2=>by omega) h1 (v:=x) e2 (by
     rw[e3,hs1];by_cases hgl:(xN (UX j s.c t 1) t).lamp=1
     ·rw[yBd ⟨zB,hgl⟩,yBd hgl];rfl
     ·rw[yBc (λh=>hgl h.2),yBc hgl])
    exact⟨r,r1,zB⟩
   ·have hu1:1<=u.gr:=by omega
    have hgl:=hgreen hu1 n1;rw[yBd ⟨zB,hgl⟩]at e3
    have hv:v.gr<g.hold:=by
     rcases n3 with n3|n3
     ·omega
     ·exact hgo n3
    exact⟨g.hold-x.gr,⟨t,e2,htn,.inl ⟨zB,zB,hgl,rfl⟩⟩,zB⟩
  ·rw[n]at e3
   obtain⟨r,r1,r2⟩:=zAi (hold:=g.hold) J C htn (k:=0) zB (λi h1 h2=>by omega) h1 (v:=x) e2 (by
    rw[e3,hs1];by_cases hgl:(xN (UX j s.c t 1) t).lamp=1
    ·rw[yBd ⟨zB,hgl⟩,yBd hgl];rfl
    ·rw[yBc (λh=>hgl h.2),yBc hgl])
   exact⟨r,r1,zB⟩
 ·intro ho r ⟨t',ht',htn',hR⟩;have hv:=hgo ho;have euv:=hsm zB ho;have ett:t'=t:=by rw[euv]at ht;omega
  subst ett;have hun:u.gr=v.gr:=by rw[euv]
  rcases hR with⟨q1,q2,q3,q4⟩|⟨q1,m,c0,C0,q2,q3,q4,q5⟩
  ·have hgl:(xN (bU j s.c (t':Int)) t').lamp=1:=RV J C htn q3;rw[yBd ⟨zB,hgl⟩]at e3;exact⟨g.hold-x.gr,⟨t',e2,htn,.inl ⟨zB,zB,hgl,rfl⟩⟩,zB⟩
  ·have hz:u.gr=0:=by omega
   rw[hz]at e3;have hc:bU j s.c (t':Int)=UX j c0 t' (m+1):=by rw[q2];rfl
   rw[hc]at e3⊢
   obtain⟨r',r1,r2⟩:=zAi (hold:=g.hold) J C0 htn q4 q3 h1 (v:=x) e2 (by
    rw[e3];by_cases hgl:(xN (UX j c0 t' (m+1)) t').lamp=1
    ·rw[yBd ⟨zB,hgl⟩,yBd hgl];rfl
    ·rw[yBc (λh=>hgl h.2),yBc hgl])
   exact⟨r',r1,zB⟩
def nsA (g:Cf):Int:=max (g.lock+1) (g.cap*g.per)
def nsD (g:Cf) (j:Jn):Int:=XY j+g.hold+2
def nsN (j:Jn) (R:Int):Int:=min j.ph.length R
def nsU (l:List Cl) (v:Sv) (p:Nat) (F:Int) (n:Nat):Int:=(elN l v.en p F n v.ph:Int)+if v.ph=(p:Int)then 0 else 1
structure WI (g:Cf) (j:Jn) (R:Int) (l:List Cl) (c:Ct) (v:Sv) (p:Nat) (F now:Int):Prop where
 f:F<=now
 e:kK v.en (p:Int)<=F
 b:nsA g<=now-F->∃r,Rem g.hold j c v r/\nsU l v p F j.ph.length*nsD g j+r+(now-F)<=nsA g+(nsN j R+1)*nsD g j
structure CfN (g:Cf):Prop where
 h1:1<=g.hold
 h60:g.hold<=60
 c0:0<=g.cap
 p1:1<=g.per
 l0:0<=g.lock
def zIh {es:List Int} {a x:Int} {q:Int} (h:a≠q) (ha:0<=a):kK (es.set a.toNat x) q=kK es q:=by
 unfold kK;rw[yC3];split
 ·rfl
 ·rw[yBl,yBl,yFj zB]
def EJ {es:List Int} {a x:Int} (ha:0<=a) (hl:a<es.length):kK (es.set a.toNat x) a=x:=by
 unfold kK;rw[yC3,yBc zB,yBl,yC0 zB];rfl
def zC4 {es:List Int} {m:Int} (h:∀e∈es,e<=m) (hm: -1<=m) (q:Int):kK es q<=m:=by
 unfold kK;split
 ·exact hm
 ·exact eJ (λe=>e<=m) 0 es q.toNat h zB
def zIi {g:Cf} {v:Sv} {l:List Cl} {now:Int}:(uR g v l now=v/\(v.ph= -1∨jS g v l=false))∨(v.ph≠ -1/\jS g v l=true/\uR g v l now=kR v now):=by
 unfold uR;split
 ·rename_i h;exact .inr ⟨h.1,h.2,rfl⟩
 ·rename_i h;refine .inl ⟨rfl,?_⟩;by_cases hp:v.ph= -1
  ·exact .inl hp
  ·right
   cases ho:jS g v l with
   |false=>rfl
   |true=>exact absurd ⟨hp,ho⟩ h
def EK {g:Cf} {v:Sv} {l:List Cl} (hem:∀x∈l,gK x.k=false) (h:jS g v l=true):(∀x∈l,x.ph≠v.ph)∨g.hold<=v.gr:=by
 unfold jS at h;rw[yDo,yDo]at h
 rcases h with(h|h)|h
 ·left
  intro x hx e;rw[yDj,yEh]at h;exact h zTk
 ·exact .inr (yFh h)
 ·exfalso;rw[yBq]at h;obtain⟨x,hx,e⟩:=yCx.1 h.1;rw[hem x hx]at e;cases e
theorem WI.bound {g:Cf} {j:Jn} (J:JV j) (G:CfN g) {R:Int} (hR:0<=R) {l:List Cl} {c:Ct} {v:Sv} {p:Nat} {F now:Int} (I:WI g j R l c v p F now):now-F+1<g.lock+g.cap*g.per+(nsN j R+2)*nsD g j:=by
 have hT:=RW J;have hst:=J.st;have h1:=G.h1;have hl:=G.l0;have hc:=yFn G.c0 (show 0<=g.per by have:=G.p1;omega);have hD:nsD g j=XY j+g.hold+2:=rfl;have hN:0<=nsN j R:=by unfold nsN;omega
 have hA:nsA g<=g.lock+g.cap*g.per+1:=by unfold nsA;omega
 have e1:(nsN j R+2)*nsD g j=(nsN j R+1)*nsD g j+nsD g j:=by rw[show nsN j R+2=nsN j R+1+1 by omega,yHh (nsN j R+1),yHi]
 have e2:0<=(nsN j R+1)*nsD g j:=yFn zB zB;rw[e1];by_cases hb:nsA g<=now-F
 ·obtain⟨r,h2,h3⟩:=I.b hb
  have hr:0<=r:=by
   rcases h2.nn zB with h|h
   ·exact h.1
   ·omega
  have hu:0<=nsU l v p F j.ph.length*nsD g j:=yFn (by unfold nsU;split<;>omega) zB;omega
 ·omega
theorem WI.step {g:Cf} {j:Jn} (J:JV j) (G:CfN g) {R:Int} {s:Sg} {v:Sv} {l l':List Cl} {k:Int} {p:Nat} {F now:Int} (C:CV j s.c) (W:WJ j s v) (hpn:p<j.ph.length) (hen:∀e∈v.en,e<=now) (hel:v.en.length=j.ph.length) (n0: -1<=now) (hg0:0<=v.gr)
  (hlat:(cU g j s v l' k (now+1)).1.lat=false) (I:WI g j R l s.c v p F now) (hng:¬(0<=v.ph/\(xN s.c p).lamp=1)) (hl:∀c∈l',0<=c.ph/\c.ph<(j.ph.length:Int)) (hem:∀x∈l',gK x.k=false) (hk:∀x∈l',0<=x.k)
  (hlen:(l'.length:Int)<=R) (hx:∃x∈l',x.ph=(p:Int)/\x.si<=F) (hper:∀x∈l',x.si<=now->∃y∈l,y.ph=x.ph/\y.si=x.si):
  WI g j R l' (cU g j s v l' k (now+1)).1.c (cU g j s v l' k (now+1)).2 p F (now+1):=by
 obtain⟨x,hx,xp,xs⟩:=hx;obtain⟨hF,he,hb⟩:=I;have h1:=G.h1;obtain⟨o1,_,o3⟩:=JG hlat;have hce:=JR (xU g v l' (now+1)) (grB (cU g j s v l' k (now+1)).1 (xU g v l' (now+1)));have e3:=hce.1;have e4:=hce.2;have hT:=RW J;have hst:=J.st
 have hgi:v.ph=(p:Int)->v.gr=0:=λhp=>by
  by_cases h0:0<v.gr
  ·have:=W.g o1 zB h0;rw[hp,yB5]at this;exact absurd ⟨zB,this⟩ hng
  ·omega
 have hd1:=zIi (g:=g) (v:=v) (l:=l') (now:=now+1)
 have hE:∀q:Int,kK v.en q<=kK (uR g v l' (now+1)).en q/\(q≠v.ph->kK (uR g v l' (now+1)).en q=kK v.en q)/\(v.gr=0->kK (uR g v l' (now+1)).en q=kK v.en q):=λq=>by
  rcases hd1 with⟨e,_⟩|⟨_,_,e⟩
  ·rw[e];exact⟨yC8 _,λ_=>rfl,λ_=>rfl⟩
  ·rw[e];unfold kR;dsimp only;split
   ·rename_i hc;by_cases hq:v.ph=q
    ·subst hq;rw[EJ hc.2.1 hc.2.2];have:=zC4 hen n0 v.ph;exact⟨zB,λh=>absurd Z h,λh=>by omega⟩
    ·rw[zIh hq hc.2.1];exact⟨yC8 _,λ_=>rfl,λ_=>rfl⟩
   ·exact⟨yC8 _,λ_=>rfl,λ_=>rfl⟩
 have hEp:kK (uR g v l' (now+1)).en (p:Int)=kK v.en p:=by
  by_cases hp:(p:Int)=v.ph
  ·exact(hE _).2.2 (hgi hp.symm)
  ·exact(hE _).2.1 hp
 rw[o3];have hden:=JP g v l' (now+1);refine⟨zB,by rw[e3,hden,hEp];exact he,λhA=>?_⟩;obtain⟨ix,hix,ex⟩:=cE hx;have hlk:g.lock<now+1-F:=by unfold nsA at hA;omega
 have hcp:g.cap*g.per<=now+1-F:=by unfold nsA at hA;omega
 have hbest:=zIe (g:=g) (s:=uR g v l' (now+1)) (now:=now+1) (F:=F) hix hem (by rw[ex];exact hk x hx) G.p1 G.c0 (by rw[ex,xp];unfold gL;rw[hEp];omega) hlk hcp;obtain⟨ib,hib,b1,b2⟩:=hbest
 have hdec:(uR g v l' (now+1)).ph= -1->(xU g v l' (now+1)).ph=(l'.getD ib default).ph:=λh=>by
  unfold xU;rw[yBd ⟨h,by rw[b1];omega⟩,b1,yB5]
 have hbm:=zS l' ib hib
 have hp0:0<=(xU g v l' (now+1)).ph:=by
  rcases hd1 with⟨e,h⟩|⟨_,_,e⟩
  ·by_cases hv:v.ph= -1
   ·rw[hdec (by rw[e];exact hv)];exact(hl _ hbm).1
   ·have hv0:0<=v.ph:=by have:=W.p0;omega
    rw[PC hv0 (h.resolve_left hv)];exact hv0
  ·rw[hdec (by rw[e];rfl)];exact(hl _ hbm).1
 obtain⟨R1,R2⟩:=Rem.step J C W hl h1 G.h60 hlat hp0 hg0;rw[o3]at R1 R2
 have hU:∀(t:Int),(elN l' (xU g v l' (now+1)).en p F j.ph.length t:Int)+1<=nsN j R:=λt=>by
  have a1:=zYd (l:=l') (en:=(xU g v l' (now+1)).en) (F:=F) (t:=t) hpn;have a2:=zYe (l:=l') (en:=(xU g v l' (now+1)).en) (F:=F) (t:=t) hpn ⟨x,hx,xp⟩;unfold nsN;omega
 have hD:nsD g j=XY j+g.hold+2:=rfl;have hD0:0<=nsD g j:=by omega
 generalize hxv:gA (xU g v l' (now+1)) (grB (cU g j s v l' k (now+1)).1 (xU g v l' (now+1)))=x' at *;by_cases hB:nsA g<=now-F
 ·obtain⟨r0,hr0,hin⟩:=hb hB
  have hr0n:0<=r0:=by
   rcases hr0.nn zB with h|h
   ·exact h.1
   ·omega
  have hv0:0<=v.ph:=by obtain⟨t,ht,_⟩:=hr0;omega
  cases ho:jS g v l' with
  | false=>
   have es:=PC (now:=now+1) hv0 ho;obtain⟨r',h5,h6⟩:=R2 ho r0 hr0;refine⟨r',h5,?_⟩
   have hle:nsU l' x' p F j.ph.length<=nsU l v p F j.ph.length:=by
    unfold nsU;rw[e3,e4,es]
    have:elN l' v.en p F j.ph.length v.ph<=elN l v.en p F j.ph.length v.ph:=by
     unfold elN;refine JE _ _ _ λq _ hq=>?_
     rw[yBq]at hq⊢;refine⟨?_,hq.2⟩;unfold elF at hq⊢;simp only[yBq,yCx,yCl,yBi]at hq⊢;obtain⟨⟨q1,y,hy,q2,q3⟩,_⟩:=hq;obtain⟨z,hz,z1,z2⟩:=hper y hy (by unfold gL at q3;omega);exact⟨q1,z,hz,z1.trans q2,by rw[z2];exact q3⟩
    omega
   have:=yE3 hle hD0;omega
  | true=>
   have hvp:v.ph≠(p:Int):=λh=>by
    have hz:=hgi h
    rcases EK hem ho with h2|h2
    ·exact h2 x hx (by rw[xp,h])
    ·omega
   have ed:uR g v l' (now+1)=kR v (now+1):=by
    rcases hd1 with⟨_,h⟩|⟨_,_,e⟩
    ·rcases h with h|h
     ·omega
     ·rw[ho]at h;cases h
    ·exact e
   have eph:=hdec (by rw[ed];rfl)
   have hsub:∀q:Nat,q<j.ph.length->elF l' (uR g v l' (now+1)).en p F q=true->elF l v.en p F q=true/\(q:Int)≠v.ph:=λq hq hel'=>by
    unfold elF at hel'⊢;simp only[yBq,yCx,yCl,yBi]at hel'⊢;obtain⟨q1,y,hy,q2,q3⟩:=hel';have hys:y.si<=F/\kK (uR g v l' (now+1)).en (q:Int)<=F:=by unfold gL at q3;omega
    obtain⟨z,hz,z1,z2⟩:=hper y hy zB;refine⟨⟨q1,z,hz,z1.trans q2,?_⟩,λhqv=>?_⟩
    ·have:=(hE (q:Int)).1;unfold gL;omega
    ·rcases EK hem ho with h2|h2
     ·exact h2 y hy (q2.trans hqv)
     ·have h7:=hys.2;rw[ed]at h7;unfold kR at h7;dsimp only at h7;rw[yBd ⟨zB,hv0,by have:=W.p1;omega⟩,hqv,EJ hv0 (by have:=W.p1;omega)]at h7;omega
   have hle:nsU l' x' p F j.ph.length+1<=nsU l v p F j.ph.length:=by
    unfold nsU;rw[e3,e4,hden,yBc hvp];by_cases hqp:(xU g v l' (now+1)).ph=(p:Int)
    ·rw[yBd hqp]
     have:elN l' (uR g v l' (now+1)).en p F j.ph.length (xU g v l' (now+1)).ph<=elN l v.en p F j.ph.length v.ph:=by
      unfold elN;refine JE _ _ _ λq hq h=>?_
      rw[yBq]at h⊢;obtain⟨a1,a2⟩:=hsub q (yBz.1 hq) h.1;exact⟨a1,yBk a2⟩
     omega
    ·rw[yBc hqp];obtain⟨q0,hq0⟩:∃q0:Nat,(xU g v l' (now+1)).ph=q0:=⟨(xU g v l' (now+1)).ph.toNat,zB⟩;have hq0n:q0<j.ph.length:=by have:=(hl _ hbm).2;rw[<-eph]at this;omega
     have hel0:elF l' (uR g v l' (now+1)).en p F q0=true:=by
      unfold elF;simp only[yBq,yCx,yCl,yBi];refine⟨λh=>hqp (by rw[hq0,h]),_,hbm,by rw[<-eph,hq0],?_⟩;rw[<-eph,hq0]at b2;exact b2
     have:elN l' (uR g v l' (now+1)).en p F j.ph.length (xU g v l' (now+1)).ph+1<=elN l v.en p F j.ph.length v.ph:=by
      unfold elN;refine JF _ _ _ (λq hq h=>?_) q0 (yBz.2 hq0n) ?_ ?_
      ·rw[yBq]at h⊢;obtain⟨a1,a2⟩:=hsub q (yBz.1 hq) h.1;exact⟨a1,yBk a2⟩
      ·rw[hq0];simp
      ·obtain⟨a1,a2⟩:=hsub q0 hq0n hel0;rw[a1,yBk a2];rfl
     omega
   obtain⟨r',h5,h6⟩:=R1;refine⟨r',h5,?_⟩;have hm:=yE3 hle hD0;rw[yHh,yHi]at hm;omega
 ·obtain⟨r',h5,h6⟩:=R1;refine⟨r',h5,?_⟩
  have hle:nsU l' x' p F j.ph.length<=nsN j R:=by
   have:=hU x'.ph;unfold nsU;rw[e3]
   split<;>omega
  have hm:=yE3 hle hD0;rw[yHh,yHi];omega
def zAj {b:List Int} (hb:BY b) {p:It×Nat} (h:prF b=some p):(1<=p.2/\p.2<=b.length)/\(b.length<=100000->ItK p.1):=by
 unfold prF at h;split at h
 ·cases h
 rename_i h0;split at h
 ·cases h;exact⟨⟨yBg _,by dsimp only;omega⟩,λ_=>⟨kU,yBt _,by dsimp only;omega,by dsimp only;omega⟩⟩
 split at h
 ·cases h
 split at h
 ·cases h;exact⟨⟨yBg _,by dsimp only;omega⟩,λ_=>⟨kU,yBt _,by dsimp only;omega,by dsimp only;omega⟩⟩
 split at h
 ·cases h
 split at h
 ·cases h;exact⟨⟨yBg _,by dsimp only;omega⟩,λ_=>⟨kU,yBt _,by dsimp only;omega,by dsimp only;omega⟩⟩
 split at h
 ·cases h;exact⟨⟨by dsimp only;omega,by dsimp only;omega⟩,λ_=>⟨kU,yBt _,by dsimp only;omega,by dsimp only;omega⟩⟩
 split at h
 ·cases h;exact⟨⟨by dsimp only;omega,by dsimp only;omega⟩,λ_=>⟨kU,yBt _,by dsimp only;omega,by dsimp only;omega⟩⟩
 ·cases h;rename_i hk;refine⟨⟨by dsimp only;omega,by dsimp only;omega⟩,λhl=>⟨λx hx=>hb x (yCt (yDb hx)),by dsimp only;rw[yB4,yCj];omega,?_,by dsimp only;omega⟩⟩;dsimp only;omega
def gG:Nat->List Int->List (It×Nat)
 |0,_=>[]
 |n+1,b=>match prF b with
  |none=>[]
  |some p=>p::gG n (b.drop p.2)
def zOz {n:Nat}:∀{b:List Int},BY b->b.length<=100000->∀p∈gG n b,ItK p.1:=by
 induction n with
 |zero=>intro b _ _ p hp;cases hp
 | succ n ih=>
  intro b hb hl p hp;unfold gG at hp;split at hp
  ·cases hp
  ·rename_i q hq;have h:=zAj hb hq
   rcases yCk.1 hp with rfl|hp
   ·exact h.2 hl
   ·exact ih (λx hx=>hb x (yCt hx)) SZ p hp
def zE5 (l:List (It×Nat)):Nat:=(l.map λp=>p.2).sum
def zC5 {n:Nat}:∀{b:List Int},BY b->zE5 (gG n b)<=b.length:=by
 induction n with
 |zero=>intro b _;exact yBt _
 |succ n ih=>
  intro b hb;unfold gG;split
  ·exact yBt _
  ·rename_i q hq;have h:=zAj hb hq;have h2:=ih (b:=b.drop q.2) (λx hx=>hb x (yCt hx));rw[yCj]at h2;simp only[zE5,yCh,List.sum_cons]at *; omega
def psH (b:List Int):List (Nat×xM):=[(1061,.box [zD yA b])]
def psL (b:List Int):List (List AV):=(gG b.length b).map λp=>[vC p.1,iA (p.2:Int)]
def zIj (b:List Int):zO 196 [zD yA b] [] (.fn 217 [.ptr 1061 0 0]) (psH b):=by
 unfold psH;refine eM call196 λF hF=>?_
 repeat' (first|(refine zE ?_;first|refine qA (jE (v:=AV.sl _ _) 1061 Z Z) Z Z Z ?_|refine vV tok Z Z ?_|refine qR ?_)|(first|refine xT ?_|refine xI ?_|refine vJ Z ?_|refine zZ Z ?_|refine zV Z ?_|refine xQ Z (λhc=>?_) λhc=>?_|refine xD ?_|refine yZ ?_|refine xJ ?_|refine yX ?_))
 exact zK [1061] Z Z Z Z
def zIk {n:Nat} {b:List Int} (hb:BY b) (hn:b.length<=n):gG n b=match prF b with
  |none=>[]
  |some p=>p::gG (n-1) (b.drop p.2):=by
 cases n with
 |zero=>
  have h0:b=[]:=yCb zB;subst h0;rfl
 |succ n=>rfl
def zE6 (b:List Int) (hb:BY b) (hl:b.length<=1000000):ZW prog 217 [.ptr 1061 0 0] (psH b) (psL b):=by
 refine bI func217 Z (λargs w=>call217 args w) Z Z Z (λF y hro hit hY=>?_);unfold psH;refine WW ?_;refine jF (b.length+1) [1061] [1061] [0] [3,1000000,0] Z (λzn T U zs=>∃(r:List Int) (pre:List (It×Nat)) (n:Nat),(gG b.length b=pre++gG n r/\BY r/\r.length<=n/\n<=1000000/\zn=n+1)/\zs=⟨(3,zD yA r)::(1000000,.gh pre.length)::T,U⟩) ?_;(conv=>whnf);refine⟨?_,?_⟩
 ·exact⟨b,[],b.length,⟨rfl,hb,yBg _,hl,rfl⟩,rfl⟩
 rintro zn st ⟨r,pre,n,⟨hp,hr,hrn,hn1,rfl⟩,rfl⟩;have kp:=zO0 r hr zB;rw[zIk hr hrn]at hp;have hrl:=zA yA r;unfold psL at hY⊢
 cases h:prF r with
 |none=>
  rw[h]at kp hp;rw[show zUo none= .tup [.agg [iA 0,iA 0,.sl false []],iA 0,bA false]from Z]at kp;dsimp only at hp;rw[yCd]at hp;refine zW kp ?_;exact cO Z (.inl (by rw[yBe,hp]))
 | some p=>
  rw[h]at kp hp;obtain⟨hp1,hp2⟩:=(zAj hr h).1;obtain⟨it,k⟩:=p;dsimp only at hp hp1 hp2;rw[show zUo (some (it,k))= .tup [vC it,iA (k:Int),bA true]from Z]at kp
  have hys:((gG b.length b).map λp=>[vC p.1,iA (p.2:Int)])[pre.length]? =some [vC it,iA (k:Int)]:=by
   rw[hp,yBh,yB9 (yBg _),yDh];rfl
  have hlen:pre.length<((gG b.length b).map λp=>[vC p.1,iA (p.2:Int)]).length:=by rw[yBe,hp];simp
  have hn0:1<=n:=by omega
  generalize ((gG b.length b).map λp=>[vC p.1,iA (p.2:Int)])=xs at *;unfold vC at*
  (repeat' (first|refine uC ?_|((first|apply xE|apply xV)<;>intro hc)|(refine zE ?_;refine wA ?_;first|(first|(refine uF 102 ?_;first|refine wK (zL (kp) Z Z Z Z Z) Z ?_|refine qA (zL (kp) Z Z Z Z Z) Z Z Z ?_|refine XZ (zL (kp) Z Z Z Z Z) Z Z Z ?_))|(refine BV ?_;refine QM hit hY Z Z hys Z Z Z ?_ ?_))|(refine zE ?_;first|refine SM ?_)|fail))
  ·refine⟨n-1+1,zB,r.drop k,pre++[(it,k)],n-1,⟨by rw[hp,yCa];rfl,λx hx=>hr x (yCt hx),by rw[yCj];omega,zB,rfl⟩,?_⟩;rw[yBf,yDu];rfl
  ·exact cO Z (.inr zB)
end Av
end Go.Proofs.YteajjdidebfcjaaGreat
