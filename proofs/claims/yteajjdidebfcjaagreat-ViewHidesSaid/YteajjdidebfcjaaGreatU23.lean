/- Part 23. -/
import Derived.Test.YteajjdidebfcjaaGreatU22
namespace Go.Proofs.YteajjdidebfcjaaGreat
namespace Av
open Tryz
set_option linter.all false
set_option maxRecDepth 4000
set_option maxHeartbeats 8000000
section
variable {P:Program} {K0:List Nat} {F:Fr K0} {m:Nat} {ops:Array Oper} {rest:List Oper} {fs:List FP} {tm:List (Nat×AV)} {h:List (Nat×xO)}
def zCd {Q:List FP->St->Prop} (t K sz:Nat) (hv:zG tm t= .s (.slice none 0 0)) (hK:(zD h K).isNone=true) (hp:Nat.ble 1 sz=true) (h1:zZ P F m ops false rest ⟨(t,.ref K 0 0)::tm,(K,.arr sz [] true)::h⟩ fs Q):zZ P F m ops false rest ⟨tm,h⟩ fs Q:=
 ⟨λa w R=>h1.run a w (wN.virt R t K sz hv hK hp)⟩
end
def zWx (m:Ms) (h:bS m):zN 194 [yB m] [] (bA false) []:=by
 obtain⟨k,tk,ar,da⟩:=m;obtain⟨h1,h2⟩:=h;dsimp only at h1 h2;subst h1;have c:=zVn h2;rw[show yB ⟨k,[],ar,da⟩= .agg [iA k,zC yA [],zC iA ar,zC yA da]from Z]at *; refine eM call194 λF hF=>?_
 refine zV c ?_;exact zJ
def zY3 (l:List Ms) (hl9:l.length<=1000000) (h:∀m∈l,bS m):zN 216 [zC yB l,.fn 194 []] [] (iA (-1)) []:=by
 have hl:=zA yB l;refine eM call216 λF hF=>?_
 refine WW ?_;refine yM (l) [] [] [0,1,7] [8,0,1,7] Z (λi pre T U=>⟨(8,iA i)::T,U⟩) ?_;(conv=>whnf);refine⟨by rfl,?_,?_⟩
 ·intro i pre x post hx hi;have hy:=xG yB hx hi;have hlt:=yP hx hi;have c:=zWx x (h x (wT hx));clear hx;refine zV c ?_;rfl
 ·(refine WW ?_)
  exact zJ
def zWy (l:List Ms) (hl9:l.length<=1000000) (h:∀m∈l,bS m):zN 193 [zC yB l,.fn 194 []] [] (zC yB l) []:=by
 have c:=zY3 l hl9 h;have hl:=zA yB l;refine eM call193 λF hF=>?_
 refine zV c ?_;exact zJ
def AG (l:List Ms) (hl9:l.length<=1000000) (h:∀m∈l,bS m):zN 158 [zC yB l] [] (zC yB l) []:=by
 have c:=zWy l hl9 h;have hl:=zA yB l;refine eM call158 λF hF=>?_
 refine zV c ?_;exact zJ
def zNb (y:Int):0<=VX y/\VX y<256:=by
 unfold VX;have e:IntKind.u8.wrap y=y % 256:=by simp[IntKind.wrap,IntKind.signed,IntKind.bits]
 rw[e];omega
def zNc {l:List Vw} (h:∀v∈l,AZ v):BY (YP l):=λx hx=>by
 unfold YP at hx;obtain⟨y,hy,hx⟩:=yD4.1 hx;obtain⟨v,hv,rfl⟩:=yBl.1 hy;have hb:=h v hv;have hc:=GT hb.c v.co.length (yAg _) hb.n;have hp:=VY v.co.length hb.n;have hs:=zYa (n:=kV v.co v.co.length) hc.1 zB;unfold vwF at hx;simp only[yC5,yCc,yBt,yBl]at hx
 rcases hx with rfl|rfl|rfl|⟨y,_,rfl⟩
 ·unfold hdF
  split<;>split<;>omega
 ·omega
 ·exact zNb _
 ·exact zNb _
def zWz (l:List Rq) (v:List Vw) (now:Int) (n:Nat):BY (cqL l v now n):=λx hx=>by
 unfold cqL at hx;obtain⟨i,_,rfl⟩:=yBl.1 hx;unfold cqF;split
 ·have:=zMc ((l.getD (i/3) default).legs.getD (i % 3) default) v now;omega
 ·omega
def zNd (d:xJ) (hq:0<=d.rg.ag.req/\d.rg.ag.req<=4) (v:List Vw) (now:Int) (n0:0<=now) (n1:now<=1073741824) (hn:v.length<=4) (hb:∀w∈v,AZ w):bS (jQ d v now):=by
 have h1:=SH hb;have h2:=eX [now];have h3:(cqL d.rq v now (d.rg.ag.req.toNat*3)).length=d.rg.ag.req.toNat*3:=by simp[cqL]
 refine⟨rfl,by dsimp only[jQ,stM];omega,.cons zB .nil,by simp[jQ,stM],?_,.inl Z,.inl ⟨rfl,rfl⟩,?_⟩
 ·intro x hx
  rcases yAz.1 hx with hx|hx
  ·exact zNc hb x hx
  ·exact zWz _ _ _ _ x hx
 ·show(([now].map qQ).flatten).length+1+(YP v++cqL d.rq v now (d.rg.ag.req.toNat*3)).length<=200
  rw[yAf];simp only[yAp,yBk]at h2;omega
def KE (now:Int) (v:List Vw):Ms:=⟨21,[],[now],YP v⟩
def zY4 (v:List Vw) (now:Int) (n0:0<=now) (n1:now<=1073741824) (hn:v.length<=4) (hb:∀w∈v,AZ w):bS (KE now v):=by
 have h1:=SH hb;have h2:=eX [now];refine⟨rfl,by dsimp only[KE];omega,.cons zB .nil,by simp[KE],zNc hb,.inl Z,.inl ⟨rfl,rfl⟩,?_⟩
 show(([now].map qQ).flatten).length+1+(YP v).length<=200
 simp only[yAp,yBk]at h2;omega
def zW0 (now:Int) (v:List Vw) (hn:v.length<=1000) (hb:∀w∈v,AZ w):zN 159 [iA now,zC vA v] [] (yB (KE now v)) []:=by
 have kr:=zMb v hn hb;have hrl:=zA yA (YP v);refine eM call159 λF hF=>?_
 refine zV kr ?_;refine zH [] Z Z ?_ Z;exact yBa (λz=>AV.agg [iA 21,AV.sl false [],AV.sl false [iA now],AV.sl false z]) yAh
def YR (e:En):List Int:=[e.ag,e.ki,e.co]
def trM (now:Int) (en:List En):Ms:=⟨18,[],now::((en.take 16).map YR).flatten,[]⟩
def zZ9 (now:Int) (n0:0<=now) (n1:now<=1073741824) (en:List En) (h:∀e∈en,EnK e):bS (trM now en):=by
 have hl:(en.take 16).length<=16:=by rw[yAw];omega
 have hm:∀e∈en.take 16,EnK e:=λe he=>h e (yBy he)
 unfold trM;generalize en.take 16=l at*
 have h3:((l.map YR).flatten).length=3*l.length:=by
  clear hm hl
  induction l with
  |nil=>rfl
  |cons e l ih=>rw[yBs,yC0,yAf,ih,yAp];show 3+_=_;omega
 have hz:((((l.map YR).flatten).map qQ).flatten).length<=4*l.length:=by
  clear h3 hl
  induction l with
  |nil=>simp
  |cons e l ih=>
   have ih:=ih λx hx=>hm x RS
   have he:=hm e zS;have e1:=BB (n:=e.ag) (by have:=he.a;omega);have e2:=zXt (n:=e.ki) (by have:=he.k;omega);have e3:=BB (n:=e.co) (by have:=he.c;omega);rw[yBs,yC0,yAn,yCv,yAf,yAp];simp only[YR,yBs,yCq,yC0,List.flatten_nil,yAf,yA8];omega
 have e0:=(jW now).2;refine⟨rfl,by dsimp only;omega,?_,by dsimp only;rw[yAp];omega,λx hx=>(by cases hx),.inr Z,.inr ⟨.inr Z,(l.length:Int),?_,zB,by show(0:Int)<=_;omega,by show _<=(16:Int);omega⟩,?_⟩
 ·refine .cons zB ?_;intro x hx;obtain⟨y,hy,hx⟩:=yD4.1 hx;obtain⟨e,he,rfl⟩:=yBl.1 hy;have hk:=hm e he;have h1:=hk.a;have h2:=hk.k;have h4:=hk.c;simp only[YR,yBt,yEk,yFv]at hx;omega
 ·show((now::(l.map YR).flatten).length:Int)=1+3*(l.length:Int)
  rw[yAp];omega
 ·show(((now::(l.map YR).flatten).map qQ).flatten).length+1+0<=200
  rw[yBs,yC0,yAf];omega
def tlF (d:xJ) (vw:List Vw) (now:Int) (k:Nat) (R:List (List Ms)) (en:List En):List Ms:=(R.getD k []++[jQ d vw now])++(if d.au.getD k default=true then [trM now en]else [])
def zS9 (d:xJ) (hq:0<=d.rg.ag.req/\d.rg.ag.req<=4) (v:List Vw) (now:Int) (n0:0<=now) (n1:now<=1073741824) (hn:v.length<=4) (hb:∀w∈v,AZ w) (k:Nat) (R:List (List Ms)) (hR:∀l∈R,l.length<=1000/\∀m∈l,bS m) (hk:k<R.length) (en:List En) (h:∀e∈en,EnK e):(tlF d v now k R en).length<=1002/\∀m∈tlF d v now k R en,bS m:=by
 have hr:R.getD k []∈R:=by
  rw[yAk,yAr hk];exact yDa _
 obtain⟨h1,h2⟩:=hR _ hr;unfold tlF;refine⟨?_,λm hm=>?_⟩
 ·rw[yAf,yAf];split
  ·simp only[yAp,yBk];omega
  ·simp only[yAp,yBk];omega
 ·rcases yAz.1 hm with hm|hm
  ·rcases yAz.1 hm with hm|hm
   ·exact h2 m hm
   ·rw[yBe.1 hm];exact zNd d hq v now n0 n1 hn hb
  ·split at hm
   ·rw[yBe.1 hm];exact zZ9 now n0 n1 en h
   ·cases hm
def yAa (en:List En):en.take (min ((en.map gI).length:Int) 16).toNat=en.take 16:=by
 rw[yAe];by_cases h:en.length<=16
 ·rw[yAo zB,yAo zB]
 ·congr 1
  omega
theorem zR1 (y:Cy) (n0:0<=y.now) (n1:y.now<=1073741824) (a k s:Nat) (ha:a<y.ds.length) (hd:dH (y.ds.getD a default)) (hq:0<=(y.ds.getD a default).rg.ag.req/\(y.ds.getD a default).rg.ag.req<=4) (hn:y.vw.length<=4) (hb:∀w∈y.vw,AZ w) (hk:k<(y.ds.getD a default).au.length)
  (R:List (List Ms)) (hR:∀l∈R,l.length<=1000/\∀m∈l,bS m) (hkR:k<R.length) (en:List En) (he:∀e∈en,EnK e) (hel:en.length<=100000):
  zN 157 [qA y,plA a k s,zC YO R,zC gI en] [] (zC yB (tlF (y.ds.getD a default) y.vw y.now k R en)) []:=by
 have ht:=zS9 _ hq y.vw y.now n0 n1 hn hb k R hR hkR en he;have kv:=AG (tlF (y.ds.getD a default) y.vw y.now k R en) zB ht.2;have ks:=BV (y.ds.getD a default) hd hq y.vw y.now zB hb;have hyd:=zM zL y.ds a ha;have hyr:=zM YO R k hkR;have hyk:=zM bA (y.ds.getD a default).au k hk;have hlr:=zA YO R;have hle:=zA gI en;have hlk:=zA bA (y.ds.getD a default).au;have hR1:=(hR _ (zQ R k hkR)).1;have eR:R.getD k default=R.getD k []:=rfl;unfold qA XU;unfold tlF at kv⊢;rw[eR]at hyr hR1;generalize jQ (y.ds.getD a default) y.vw y.now=st at *;generalize R.getD k []=rp at *;have hlp:=zA yB rp;unfold YO zC at hyr;generalize y.ds.getD a default=d at *;unfold zL wJ at hyd ks;refine eM call157 λF hF=>?_
 refine zV ks ?_;refine zCd 25 1001 4 Z Z Z ?_;generalize d.au.getD k default=b at *;cases b
 ·have e1:zC yB ((rp++[st])++if false=true then [trM y.now en]else [])= .sl false (rp.map yB++[yB st]):=by
   rw[yAc yAx,yA8];unfold zC;rw[yAn];rfl
  rw[e1]at kv⊢
  (have zc1:=ks;(repeat' (first|refine uP ?_|apply xM|apply xZ|intro hc|(refine zE ?_;first|refine SM ?_)|fail))<;>clear zc1)
  (refine vR 158 ?_;refine uN [] [85] Z ?_;(conv=>whnf);(try simp only[yBf,yAh]);first|refine yJ (zI (kv) Z Z Z Z Z) Z ?_|refine uT (zI (kv) Z Z Z Z Z) Z Z Z ?_|refine XF (zI (kv) Z Z Z Z Z) Z Z Z ?_)
  (repeat' (first|refine uP ?_|apply xM|apply xZ|intro hc|(refine zE ?_;first|refine SM ?_)|fail))
  exact zJ
 ·have e1:zC yB ((rp++[st])++if true=true then [trM y.now en]else [])= .sl false ((rp.map yB++[yB st])++[yB (trM y.now en)]):=by
   rw[yAd Z];unfold zC;rw[yAn,yAn];rfl
  rw[e1]at kv⊢
  (have zc1:=ks;(repeat' (first|refine uP ?_|apply xM|apply xZ|intro hc|(refine zE ?_;first|refine SM ?_)|fail))<;>clear zc1)
  rw[yAa];have hl16:(en.take 16).length<=16:=by rw[yAw];omega
  have hl17:=zA gI (en.take 16);rw[show yB (trM y.now en)= .agg [iA 18,.sl false [],.sl false ((y.now::((en.take 16).map YR).flatten).map iA),.sl false []]from Z]at *; generalize en.take 16=l16 at *;refine vY 57 Z ?_;refine yM (l16) [11,57,1001] [1001] [10,11,63,64] [65,10,11,63,64] Z (λi pre T U=>⟨(65,iA i)::T,(11,.box [iA 18,.s (.slice none 0 0),.ref 57 0 ((y.now::(pre.map YR).flatten).map iA).length,.s (.slice none 0 0)])::(57,.arr 1 ((y.now::(pre.map YR).flatten).map iA) true)::U⟩) ?_;(conv=>whnf);refine⟨by rfl,?_,?_⟩
  ·intro i pre x post hx hi;have hy:=xG gI hx hi;have hlt:=yP hx hi
   have hpl:((pre.map YR).flatten).length=3*pre.length:=by
    clear hx hi hy
    induction pre with
    |nil=>rfl
    |cons e l ih=>rw[yBs,yC0,yAf,ih,yAp];show 3+_=_;omega
   have hpm:=zA iA (y.now::(pre.map YR).flatten);rw[yAp]at hpm;rw[yAn,yCv];rw[show(y.now::((pre.map YR).flatten++([x].map YR).flatten)).map iA=(y.now::(pre.map YR).flatten).map iA++[iA x.ag,iA x.ki,iA x.co] by simp[YR]];unfold gI KB at hy;clear hx kv ks e1;generalize (y.now::(pre.map YR).flatten).map iA=X at *;refine WW ?_;rfl
  ·refine uM [11,1001] [10,11,63,64,65] Z ?_
   (conv=>whnf)
   simp only[yBf,yAh]
   (repeat' (first|refine ZJ ?_|apply xM|apply xZ|intro hc|(refine zE ?_;first|(refine yV ?_;refine UW 82 Z Z Z ?_;refine qS tok Z Z ?_))|refine SB ?_|fail))
   (refine vR 158 ?_;refine uN [] [85] Z ?_;(conv=>whnf);(try simp only[yBf,yAh]);first|refine yJ (zI (kv) Z Z Z Z Z) Z ?_|refine uT (zI (kv) Z Z Z Z Z) Z Z Z ?_|refine XF (zI (kv) Z Z Z Z Z) Z Z Z ?_)
   (repeat' (first|refine uP ?_|apply xM|apply xZ|intro hc|(refine zE ?_;first|refine SM ?_)|fail))
   exact zJ
def zNe (b:List Int) (hb:BY b) (hl:b.length<=1000) (g:Bool) (N:Nat) (hN:1<=N/\N<=1000):zN 126 [stA b g,iA N] []
  (.tup [stA (b.drop (XW N (gJ b.length b) ⟨0,g,[]⟩).t) (XW N (gJ b.length b) ⟨0,g,[]⟩).g,zC wI (XW N (gJ b.length b) ⟨0,g,[]⟩).its]) []:=by
 have k:=zN7 b hb hl g N hN;generalize XW N (gJ b.length b) ⟨0,g,[]⟩=r at *;unfold stA at *;refine eM call126 λF hF=>?_
 repeat' (first|(refine zE ?_;first|refine uT (jC (v:=AV.agg _) 2 Z Z) Z Z Z ?_|refine uT (jC (v:=AV.s _) 1053 Z Z) Z Z Z ?_|refine vF tok Z Z ?_|refine aH tok Z Z Z Z ?_|refine uQ ?_)|(first|refine xQ ?_|refine xE ?_|refine vG Z ?_|refine zX Z ?_|refine zU Z ?_|refine xK Z (λhc=>?_) λhc=>?_|refine xA ?_|refine yW ?_|refine xD ?_|refine yU ?_))
 refine zV k ?_;exact zJ
def zY5 (b:List Int) (hl:b.length<=256) (g:Bool) (x:List Int) (hx:x.length<=1000000):zN 117 [stA b g,zC yA x] [] (.tup [stA (b++x.take (TW b.length x.length)) g,bA (decide (TW b.length x.length=x.length))]) []:=by
 have hbl:=zA yA b;have hxl:=zA yA x;have hf:TW b.length x.length<=x.length/\b.length+TW b.length x.length<=256:=by unfold TW;omega
 have e1:min ((x.length:Nat):Int) (max (256-((b.length:Nat):Int)) 0)=((TW b.length x.length:Nat):Int):=by unfold TW;omega
 have e2:zC yA (b++x.take (TW b.length x.length))= .sl false (b.map yA++(x.take (TW b.length x.length)).map yA):=by unfold zC;rw[yAn]
 unfold stA;rw[e2];generalize TW b.length x.length=f at *;refine eM call117 λF hF=>?_
 refine WW ?_;rw[hbl,hxl,e1];refine zH [] Z Z ?_ Z
 show AV.tup [AV.agg [AV.sl false (List.take (b.map yA++(x.take f).map yA).length (b.map yA++(x.take f).map yA)),bA g],bA (qT .eql (f:Int) (x.length:Int))]=_
 rw[yAh,show qT .eql (f:Int) (x.length:Int)=decide (f=x.length) by
  by_cases h9:f=x.length
  ·rw[h9];simp[qT]
  ·have:(f:Int)≠(x.length:Int):=by omega
   simp[qT,h9,this]]
def UE (s:Ss):Ss×In:=if s.op=true then(⟨true,false,s.bf.drop (XW 4 (gJ s.bf.length s.bf) ⟨0,s.gb,[]⟩).t,(XW 4 (gJ s.bf.length s.bf) ⟨0,s.gb,[]⟩).g⟩,⟨true,(if s.dr=true then [⟨15,0,[]⟩]else [])++(XW 4 (gJ s.bf.length s.bf) ⟨0,s.gb,[]⟩).its⟩)else(s,⟨false,[]⟩)
def zEt (s:Ss) (hb:BY s.bf) (hl:s.bf.length<=1000):zN 93 [kM s] [] (.tup [kM (UE s).1,kL (UE s).2]) []:=by
 obtain⟨op,dr,bf,gb⟩:=s;dsimp only at hb hl;have k1:=GH ⟨op,dr,bf,gb⟩ hl;have k2:=zNe bf hb hl gb 4 zB;have hlen:=JW (N:=4) (gJ bf.length bf) ⟨0,gb,[]⟩ (by show 0<4;omega);unfold UE;dsimp only;generalize XW 4 (gJ bf.length bf) ⟨0,gb,[]⟩=r at *;have hrl:=zA wI r.its;unfold stA at k2;cases op
 ·rw[yAc yAx];unfold kM at *;unfold kL;refine eM call93 λF hF=>?_
  refine zV k1 ?_;exact zJ
 ·rw[yAd Z];unfold kM at *;unfold kL;cases dr
  ·rw[yAc yAx,yCc];refine eM call93 λF hF=>?_
   refine zV k2 ?_;refine zCd 32 1055 3 Z Z Z ?_;refine WW ?_;refine zH [] Z Z ?_ Z
   show AV.tup [_,AV.agg [_,AV.sl false (List.take (r.its.map wI).length (r.its.map wI))]]=_
   rw[yAh];rfl
  ·rw[yAd Z,show zC wI ([⟨15,0,[]⟩]++r.its)= .sl false ([.agg [iA 15,iA 0,zC yA []]]++r.its.map wI) by unfold zC;rw[yAn];rfl];refine eM call93 λF hF=>?_
   (have zc1:=k2;(repeat' (first|refine ZJ ?_|apply xM|apply xZ|intro hc|(refine zE ?_;first|(refine yV ?_;refine UW 18 Z Z Z ?_;refine qS tok Z Z ?_))|refine SB ?_|fail))<;>clear zc1)
   refine zCd 17 1055 3 Z Z Z ?_
   (have zc1:=k2;(repeat' (first|refine uP ?_|apply xM|apply xZ|intro hc|(refine zE ?_;first|refine SM ?_)|fail))<;>clear zc1)
   refine zH [] Z Z ?_ Z
   show AV.tup [_,AV.agg [_,AV.sl false (List.take ([AV.agg [iA 15,iA 0,zC yA []]]++r.its.map wI).length ([AV.agg [iA 15,iA 0,zC yA []]]++r.its.map wI))]]=_
   rw[yAh];rfl
def zEu (s:Ss) (hl:s.bf.length<=1000):zN 79 [kM s] [] (kM (if s.op=true then s else⟨true,false,[],false⟩)) []:=by
 obtain⟨op,dr,bf,gb⟩:=s;dsimp only at hl⊢;have k1:=GH ⟨op,dr,bf,gb⟩ hl;cases op
 ·rw[yAc yAx];unfold kM at *;refine eM call79 λF hF=>?_
  refine zV k1 ?_;exact zJ
 ·rw[yAd Z];unfold kM at *;refine eM call79 λF hF=>?_
  refine zV k1 ?_;exact zJ
def zR2 (s:Ss):zN 80 [kM s] [] (kM ⟨false,false,[],false⟩) []:=by
 unfold kM;refine eM call80 λF hF=>?_
 refine WW ?_;exact zJ
def zW1 (s:Ss) (hl:s.bf.length<=256) (x:List Int) (hx:x.length<=1000000):zN 81 [kM s,zC yA x] [] (kM (BE s x)) []:=by
 obtain⟨op,dr,bf,gb⟩:=s;dsimp only at hl;have k1:=GH ⟨op,dr,bf,gb⟩ (by dsimp only;omega);have k2:=zY5 bf hl gb x hx;unfold BE;dsimp only;unfold stA at k2;cases op
 ·rw[yAc yAx];unfold kM at *;refine eM call81 λF hF=>?_
  refine zV k1 ?_;exact zJ
 ·rw[yAd Z];unfold kM at *;cases hf:decide (TW bf.length x.length=x.length)
  ·rw[hf]at k2;rw[yAj (of_decide_eq_false hf),yD1];refine eM call81 λF hF=>?_
   refine zV k2 ?_;exact zJ
  ·rw[hf]at k2;rw[yAl (λh=>h (yEy hf)),yGi];refine eM call81 λF hF=>?_
   refine zV k2 ?_;exact zJ
structure SsI (s:Ss):Prop where
 y:BY s.bf
 n:s.bf.length<=256
def zNf {s:Ss} (h:SsI s):SsI (UE s).1/\InS (UE s).2:=by
 have hn:=h.n;unfold UE;split
 ·refine⟨⟨λx hx=>h.y x (yBc hx),by dsimp only;rw[yA7];omega⟩,?_⟩;have hlen:=JW (N:=4) (gJ s.bf.length s.bf) ⟨0,s.gb,[]⟩ (by show 0<4;omega);have hmem:=zCt (N:=4) (Pr:=ItK) (gJ s.bf.length s.bf) ⟨0,s.gb,[]⟩ (λx hx=>by cases hx) (zN5 h.y zB);generalize XW 4 (gJ s.bf.length s.bf) ⟨0,s.gb,[]⟩=r at *;refine⟨?_,λx hx=>?_⟩
  ·dsimp only;rw[yAf];split
   ·simp only[yAp,yBk];omega
   ·simp only[yBk];omega
  ·rcases yAz.1 hx with hx|hx
   ·split at hx
    ·rw[yBe.1 hx];exact⟨qY,yAt _,by dsimp only;omega,by dsimp only;omega⟩
    ·cases hx
   ·exact hmem x hx
 ·exact⟨h,yAt _,λx hx=>by cases hx⟩
def zW2 {s:Ss} (h:SsI s) {x:List Int} (hx:BY x):SsI (BE s x):=by
 refine⟨?_,zQo h.n x⟩;unfold BE;split
 ·intro y hy
  rcases yAz.1 hy with hy|hy
  ·exact h.y y hy
  ·exact hx y (yBy hy)
 ·exact h.y
def owP (ins:List In) (b k:Nat):List In:=(List.range k).map λj=>ins.getD (b+j) default
def zNg (ins:List In) (b k:Nat):owP ins b (k+1)=owP ins b k++[ins.getD (b+k) default]:=by simp[owP,yCx]
def owI (c:Cf) (ins:List In) (a:Nat):List In:=owP ins (vM c.ags a).toNat (c.ags.getD a default).ses.toNat
def rpA (r:DR):AV:=zC YO r.R
def bgL (now:Int) (ds:List xJ) (i:Nat):List xJ:=XP (λ_ d=>LE d now) ds i
def RD (now:Int) (ds:List xJ) (rF:Nat->DR) (i:Nat):List xJ:=(List.range ds.length).map λk=>if k<i then(rF k).d else LE (ds.getD k default) now
def rpL (n:Nat) (rF:Nat->DR) (i:Nat):List AV:=(List.range n).map λk=>if k<i then rpA (rF k)else .s (.slice none 0 0)
def LG (rF:Nat->DR) (i:Nat):List En:=((List.range i).map λk=>(rF k).en).flatten
def RE (rF:Nat->DR) (i:Nat):List Int:=((List.range i).map λk=>(rF k).ks).flatten
def AH (rF:Nat->DR) (i:Nat):LG rF (i+1)=LG rF i++(rF i).en:=by simp[LG,yCx]
def AI (rF:Nat->DR) (i:Nat):RE rF (i+1)=RE rF i++(rF i).ks:=by simp[RE,yCx]
theorem FA {rF:Nat->DR} (h:∀i,(rF i).en.length<=2000):∀i,(LG rF i).length<=2000*i
 |0=>yAt _
 |i+1=>by
  have:=FA h i;have:=h i;rw[AH,yAf];omega
theorem FB {rF:Nat->DR} (h:∀i,(rF i).ks.length<=2000):∀i,(RE rF i).length<=2000*i
 |0=>yAt _
 |i+1=>by
  have:=FB h i;have:=h i;rw[AI,yAf];omega
def dD {α:Type} (n i:Nat) (f g:Nat->α) (hi:i<n):((List.range n).map λk=>if k<i+1 then f k else g k)=((List.range n).map λk=>if k<i then f k else g k).set i (f i):=by
 apply yBj;intro j;rw[yCn,yAi,yAi,yAe,yB1];by_cases hj:j<n
 ·rw[yBg hj];by_cases h:i=j
  ·subst h;rw[yAd Z,yAd hi];simp
  ·rw[yAc h];by_cases h2:j<i
   ·simp[h2,show j<i+1 by omega]
   ·simp[h2,show¬j<i+1 by omega]
 ·rw[yA1 wF];by_cases h:i=j
  ·omega
  ·simp[h]
def bU {α:Type} (n i:Nat) (f g:Nat->α) (hi:i<n):((List.range n).map λk=>if k<i then f k else g k)[i]? =some (g i):=by
 rw[yAi,yBg hi];simp
def dE {α:Type} (n:Nat) (f g:Nat->α):((List.range n).map λk=>if k<n then f k else g k)=(List.range n).map f:=by
 apply yDt;intro k hk;rw[yAd (yA2.1 hk)]
def YS {l:List Ag} (h:QP l) {i j:Nat} (hij:i<=j) (hj:j<=l.length):vM l i<=vM l j:=by
 induction j with
 |zero=>rw[show i=0 by omega];exact yCj _
 | succ j ih=>
  by_cases h1:i=j+1
  ·rw[h1];exact yCj _
  ·have h2:=ih zB zB;have h3:=h.at (i:=j) zB
   show vM l i<=vM l j+(l.getD j default).ses
   omega
theorem zGx (c:Cf) (hw:QP c.ags) (now:Int) (n0:0<=now) (n1:now<=1073741824) (ds:List xJ) (hdl:ds.length=c.ags.length) (hI:∀i,i<ds.length->uU c (ds.getD i default)) (ins:List In) (hil:(ins.length:Int)=vM c.ags c.ags.length)
  (rF:Nat->DR) (hen:∀i,(rF i).en.length<=2000) (hks:∀i,(rF i).ks.length<=2000) (hr:∀i,i<ds.length->zN 94 [wD c,zL (LE (ds.getD i default) now),zC kL (owI c ins i),iA now] [] (drT (rF i)) [])
  (A B C:List AV) (a2 a3 a4:Nat) (vw:List Vw):
  zN 153 [XU c false now (.ref 1011 0 (ds.map zL).length) (.ref 1012 0 a2) (.ref 1013 0 a3) (.ref 1014 0 a4) (zC vA vw),zC kL ins] [(1011,.arr 17 (ds.map zL) false),(1012,.arr 5 A false),(1013,.arr 3 B false),(1014,.arr 1 C false)]
   (.tup [.sl false ((List.range ds.length).map λk=>rpA (rF k)),zC gI (LG rF ds.length),zC iA (RE rF ds.length)]) [(1011,.arr 17 ((RD now ds rF ds.length).map zL) false),(1012,.arr 5 A false),(1013,.arr 3 B false),(1014,.arr 1 C false)]:=by
 have hdm:=zA zL ds;have hal:=zA wK c.ags;have hn4:=hw.1;have hbl:∀i,(bgL now ds i).length=ds.length:=λi=>wZ _ _ _
 have hbm:∀i,((bgL now ds i).map zL).length=ds.length:=λi=>by rw[yAe,hbl]
 have hb0:bgL now ds 0=ds:=jL _ _;unfold XU;refine eM call153 λF hF=>?_
 refine WW ?_;refine zO (ds.length) [1011,2,3,1012,1013,1014] [2,3,1012,1013,1014] [2,3,21,57] [22,2,3,21,57] Z (λi T U=>⟨(22,iA i)::T,(1011,.arr 17 ((bgL now ds i).map zL) false)::U⟩) ?_;(conv=>whnf);refine⟨by(rw[hb0];rfl),?_,?_⟩
 ·intro i hi
  have hy:((bgL now ds i).map zL)[i]? =some (zL (ds.getD i default)):=by
   rw[yAi];unfold bgL;rw[uO,yAd hi,yAc (yEf i)];rfl
  have e:(bgL now ds (i+1)).map zL=((bgL now ds i).map zL).set i (zL (LE (ds.getD i default) now)):=by unfold bgL;rw[qE _ _ _ _ hi]
  have kb:=BW (hI i hi) now;have hxl:=hbm i;rw[e];clear e hr hI hb0;generalize LE (ds.getD i default) now=d2 at *;generalize ds.getD i default=d1 at *;generalize (bgL now ds i).map zL=X at *;refine zV kb ?_;rfl
 ·have hbn:(bgL now ds ds.length).map zL=(RD now ds rF 0).map zL:=by
   congr 1
   unfold RD;apply yBj;intro j;unfold bgL;rw[uO,yAi];by_cases hj:j<ds.length
   ·rw[yAd hj,yAd hj,yBg hj];simp
   ·rw[yAc hj,yA1 wF];rfl
  rw[hbn];refine WW ?_;have hmin:min (ds.length:Int) (c.ags.length:Int)=(ds.length:Int):=by rw[hdl];exact yGk _
  rw[hdm,hal,hmin]
  have hr0:rpL ds.length rF 0=List.replicate ds.length (.s (.slice none 0 0)):=by
   unfold rpL;apply yBj;intro j;rw[yAi,yCb];by_cases hj:j<ds.length
   ·rw[yBg hj,yAd hj];simp
   ·rw[yAc hj,yA1 wF];rfl
  have hrl:∀i,(rpL ds.length rF i).length=ds.length:=λi=>by unfold rpL;rw[yAe,yB1]
  have htl:∀i,((RD now ds rF i).map zL).length=ds.length:=λi=>by unfold RD;rw[yAe,yAe,yB1]
  refine xC 9 1042 3 Z Z Z ?_;refine xC 10 1043 1 Z Z Z ?_;refine zO (ds.length) [41,1011,1042,1043,2,3,1012,1013,1014] [2,3,1012,1013,1014] [2,3,8,49,57] [9,10,50,2,3,8,49,57] Z (λi T U=>⟨(9,.ref 1042 0 ((LG rF i).map gI).length)::(10,.ref 1043 0 ((RE rF i).map iA).length)::(50,iA i)::T,(41,.arr 1 (rpL ds.length rF i) false)::(1011,.arr 17 ((RD now ds rF i).map zL) false)::(1042,.arr 3 ((LG rF i).map gI) true)::(1043,.arr 1 ((RE rF i).map iA) true)::U⟩) ?_;(conv=>whnf);refine⟨by(rw[hr0];rfl),?_,?_⟩
  ·intro i hi;have hic:i<c.ags.length:=by omega
   have hy:((RD now ds rF i).map zL)[i]? =some (zL (LE (ds.getD i default) now)):=by
    rw[yAi];unfold RD;rw[bU _ _ _ _ hi];rfl
   have e1:(RD now ds rF (i+1)).map zL=((RD now ds rF i).map zL).set i (zL (rF i).d):=by
    unfold RD;rw[dD _ _ _ _ hi,yCk]
   have e2:rpL ds.length rF (i+1)=(rpL ds.length rF i).set i (rpA (rF i)):=by
    unfold rpL;rw[dD _ _ _ _ hi]
   have hyr:(rpL ds.length rF i)[i]? =some (.s (.slice none 0 0)):=by
    unfold rpL;exact bU _ _ _ _ hi
   have hxl:=htl i;have hrll:=hrl i;have hel:=FA hen i;have hkl:=FB hks i;have hel1:=hen i;have hkl1:=hks i;have hem:=zA gI (LG rF i);have hkm:=zA iA (RE rF i);have hem1:=zA gI (rF i).en;have hkm1:=zA iA (rF i).ks;have ks:=zD1 c i;have kd:=hr i hi;have ht:=zKn c hw i hic;rw[e1,e2,AH,AI,yAn,yAn];clear e1 e2 hr hI hb0 hr0 hbn;unfold drT tkT at kd
   change zN 94 [_,_,_,_] [] (.tup [_,rpA (rF i),_,_]) []at kd
   generalize LE (ds.getD i default) now=D1 at *;generalize (rF i).d=D2 at *;rw[show rpA (rF i)= .sl false ((rF i).R.map YO)from Z]at *; generalize (rF i).R.map YO=R2 at *;generalize (RD now ds rF i).map zL=X at *;generalize rpL ds.length rF i=Y at *;generalize (LG rF i).map gI=En1 at *;generalize (RE rF i).map iA=Ks1 at *;rw[show zC gI (rF i).en= .sl false ((rF i).en.map gI)from Z,show zC iA (rF i).ks= .sl false ((rF i).ks.map iA)from Z]at kd;unfold zC at kd;unfold zL wJ at hy kd⊢;unfold zGc at ks ht;unfold wD at ks kd;refine zV ks ?_;obtain⟨bs,hbs⟩:∃bs:Nat,vM c.ags i=(bs:Int):=⟨(vM c.ags i).toNat,by have:=kQ hw i zB;omega⟩;obtain⟨N,hN⟩:∃N:Nat,(c.ags.getD i default).ses=(N:Int):=⟨(c.ags.getD i default).ses.toNat,by have:=hw.at (i:=i) zB;omega⟩
   have hbd:bs+N<=ins.length:=by
    have:=YS hw (show i+1<=c.ags.length by omega) (yAg _);have h2:vM c.ags (i+1)=vM c.ags i+(c.ags.getD i default).ses:=rfl;omega
   have hN2:=hw.at (i:=i) zB;have hL:GD c i=(List.range N).map λk=>[plA i k (bs+k)]:=by unfold GD;rw[hbs,hN];rfl
   rw[show owI c ins i=owP ins bs N by unfold owI;rw[hbs,hN];rfl]at kd;rw[hN]at hN2;have hil2:=zA kL ins;refine vW 12 0 1041 2 Z Z Z Z Z ?_
   refine wW hF ht Z [2,3,12,41,1011,1012,1013,1014,1041,1042,1043] [2,3,8,9,10,11,12,49,50] Z Z Z Z Z Z Z Z Z (λk ys h=>?_) (λk=>[(2,.box [zC wC c.js,zC wK c.ags,iA c.per,iA c.cap,iA c.hold,iA c.lock,bA false,iA now,.ref 1011 0 ds.length,.ref 1012 0 a2,.ref 1013 0 a3,.ref 1014 0 a4,zC vA vw]),(3,.box [zC kL ins]),(12,.box [.ref 1041 0 ((owP ins bs k).map kL).length]),(41,.arr 1 Y false),(1011,.arr 17 X false),(1012,.arr 5 A false),(1013,.arr 3 B false),(1014,.arr 1 C false),(1041,.arr 2 ((owP ins bs k).map kL) true),(1042,.arr 3 En1 true),(1043,.arr 1 Ks1 true)]) (λ_=>True)
    (T:=[(2,.ptr 2 0 0),(3,.ptr 3 0 0),(8,.ref 41 0 ds.length),(9,.ref 1042 0 En1.length),(10,.ref 1043 0 Ks1.length),(11,iA i),(12,.ptr 12 0 0),(49,iA ds.length),(50,iA i)]) Z trivial (λk ys y hys hI F1 h1 h2=>?_) (λhI=>?_)
   ·rw[hL,yAi,yAq]at h;obtain⟨x,_,rfl⟩:=h;rfl
   ·have hk:k<N:=by
     have:=(yA5.1 hys).1;rw[hL,yAe,yB1]at this;exact this
    rw[hL,yAi,yBg hk]at hys;obtain rfl:=yCr hys;have hyi:=zM kL ins (bs+k) zB;have hol:((owP ins bs k).map kL).length=k:=by unfold owP;rw[yAe,yAe,yB1]
    rw[zNg,yAn];generalize (owP ins bs k).map kL=O at *;generalize ins.getD (bs+k) default=x at *;rw[show [x].map kL=[.agg [bA x.opn,zC wI x.its]]from Z];unfold kL at hyi;refine WW ?_;refine⟨rfl,λF2 g1 g2=>?_⟩;refine WW ?_;exact⟨rfl,trivial⟩
   ·rw[show(GD c i).length=N by rw[hL,yAe,yB1]];generalize owP ins bs N=O at*
    show vZ _ _ _ _ ⟨_,_⟩ _
    refine uM [2,3,12,41,1011,1012,1013,1014,1042,1043] [2,3,8,9,10,11,12,49,50] Z ?_
    (conv=>whnf)
    simp only[yBf,yAh];clear ks ht hL hN hN2;refine zV kd ?_;rfl
  ·rw[rpL,dE];refine WW ?_;refine zH [1011,1012,1013,1014] Z Z ?_ Z
   show AV.tup [.sl false (List.take ds.length (List.map (λk=>rpA (rF k)) (List.range ds.length))),.sl false (List.take ((LG rF ds.length).map gI).length ((LG rF ds.length).map gI)),.sl false (List.take ((RE rF ds.length).map iA).length ((RE rF ds.length).map iA))]=_
   rw[yAo (by rw[yAe,yB1];exact yAg _),yAh,yAh];rfl
structure JI (j:Jn) (s:Sg) (v:Sv) (now:Int):Prop where
 c:CV j s.c
 n:v.en.length=j.ph.length
 e:∀e∈v.en,-1<=e/\e<=now
 g:0<=v.gr
def zNh (g:Cf) (s:Sv) (l:List Cl) (now:Int) (h:0<=s.gr):0<=(kR g s l now).gr:=by
 unfold kR;split
 ·exact yCj _
 ·unfold eP;split
  ·exact yCj _
  ·exact h
theorem yAb {j:Jn} (J:JV j) {s:Sg} {v:Sv} {now:Int} (n0:0<=now) (H:JI j s v now) (g:Cf) (l:List Cl) (k:Int):JI j (dvF g j s v l k now).1 (dvF g j s v l k now).2 now:=by
 refine⟨zXx J H.c g v l k now,?_,?_,?_⟩
 ·unfold dvF;split
  ·exact(RY _ _).trans H.n
  ·split
   ·exact(RY _ _).trans ((TU ..).trans H.n)
   ·dsimp only;unfold cB;split
    ·exact(TU ..).trans H.n
    ·exact(TU ..).trans H.n
 ·have hd:=zKy g v l now n0 H.e;unfold dvF;split
  ·exact MJ _ _ n0 H.e
  ·split
   ·exact MJ _ _ n0 hd
   ·dsimp only;unfold cB;split
    ·exact hd
    ·exact hd
 ·have hd:=zNh g v l now H.g;unfold dvF;split
  ·exact yCj _
  ·split
   ·exact yCj _
   ·dsimp only;unfold cB;split
    ·dsimp only;omega
    ·exact hd
theorem zNi:∀(l pre:List Lg),eI pre l=true->∀g∈l,HB g=true
 | [],_,_,g,hg=>by cases hg
 |x::l,pre,h,g,hg=>by
  unfold eI at h;simp only[yAs]at h
  rcases yBt.1 hg with rfl|hg
  ·exact h.1
  ·exact zNi l _ h.2.2 g hg
def zNj {P:Program} {st:St} {T1 T2 T3:Nat} {x y z:Operand} {k:IntKind} {m n l:Int} (hx:yO (zG st.tm) x= .s (.int k m)) (hy:yO (zG st.tm) y= .s (.int k n)) (hz:yO (zG st.tm) z= .s (.int k l)):wS P st (.call ⟨.builtin .min, #[x,y,z], #[T1,T2,T3]⟩) (.s (.int k (min (min m n) l))) [] [] []:=
 yR λoo X tm h w β a ho hg hr HH Ht=>by
  obtain⟨d0,o0,y0,p0,f0,g0⟩:=oo;dsimp only at ho;subst ho;have h1:=vO Ht hg (x:=x) qX hx;have h2:=vO Ht hg (x:=y) qX hy;have h3:=vO Ht hg (x:=z) qX hz;refine⟨.int k (min (min m n) l),?_,.fz _ _ (.s _)⟩;have e1:(if n<m then n else m)=min m n:=by omega
  have e2:(if l<min m n then l else min m n)=min (min m n) l:=by omega
  simp[execOp,resolve,invoke,builtin,Builtin.min_,Builtin.min2,h1,h2,h3,e1,e2]
def zNk {P:Program} {st:St} {op:Op} {v:AV} {d:List (Nat×xO)} {r nw:List Nat} (hs:wS P st op v d r nw) (hr:(yX d).all (r.contains ·)=true) (he:(yX d).map (zD st.h)=(yX d).map (zD d)):wS P st op v [] r nw:=
 ⟨λX tm h hg hh hn=>by
  have h1:=hs.run X tm h hg hh hn
  have e:over d h=over [] h:=funext λk=>by
   unfold over
   cases hk:zD d k with
   |none=>rfl
   |some e=>
    have hm:=uB hk;obtain⟨i,hi⟩:=yD9 hm;have e1:=yBa (·[i]?) he;have e2:zD st.h k=zD d k:=by simpa [hi]using e1
    have e3:=hh k (by have:=yAu.1 hr k hm;simpa using this)
    show some e=h k
    rw[e3,e2,hk]
  rwa [e]at h1⟩
def zNl {ag j:Int} {x:Rq} {c:Cl} (h:c∈CY ag j x) (hx:RqO x) {now:Int} (n0:0<=now) (hs:∀g∈x.legs,g.sc<=now):(0<=c.k/\c.k<=3)/\(0<=c.si/\c.si<=now):=by
 unfold CY at h;split at h
 ·cases h
 ·split at h
  ·cases h
  ·rename_i h1;rw[yBe]at h;subst h;dsimp only;refine⟨⟨hx.c0,hx.c1⟩,?_⟩;by_cases hi:(RB (λr:Lg=>r.jn==j) x.legs).toNat<x.legs.length
   ·have hm:=zQ x.legs _ hi;have hl:=hx.lg;unfold vgF at hl;rw[yAs]at hl;have:=hs _ hm;have hv:=zNi _ _ hl.2 _ hm;generalize x.legs.getD (RB (λr:Lg=>r.jn==j) x.legs).toNat default=g at *;unfold HB at hv;rw[yAm]at hv;omega
   ·rw[yAk,yA1 zB]
    show(0:Int)<=0/\(0:Int)<=now
    omega
def zNm {c:Cf} {j:Int} {ds:List xJ} (hI:∀d∈ds,uU c d) {now:Int} (n0:0<=now) (hs:∀d∈ds,FN now d.rq):∀x∈dS j ds,(0<=x.k/\x.k<=3)/\(0<=x.si/\x.si<=now):=λx hx=>by
 unfold dS at hx;obtain⟨y,hy,hx⟩:=yD4.1 hx;obtain⟨d,hd,rfl⟩:=yBl.1 hy;unfold bR at hx;obtain⟨y,hy,hx⟩:=yD4.1 hx;obtain⟨r,hr,rfl⟩:=yBl.1 hy;exact zNl hx ((hI d hd).v.ok r hr) n0 (hs d hd r hr)
theorem JP (j:Int):∀l:List xJ,(∀d∈l,d.rq.length<=4)->(dS j l).length<=4*l.length
 | [],_=>yAg _
 |d::l,h=>by
  have h1:=YE d.rg.num j d.rq;have h2:=JP j l (λx hx=>h x RS);have h3:=h d zS;have e:dS j (d::l)=bR d.rg.num j d.rq++dS j l:=rfl;rw[e,yAf,yAp];omega
def YT (c:Cf) (sg:List Sg) (sv:List Sv) (st:List Int) (ds:List xJ) (now:Int) (k:Nat):Sg×Sv:=dvF c (c.js.getD k default) (sg.getD k default) (sv.getD k default) (dS (k:Int) ds) (st.getD k default) now
def LH (D:Nat->Sg×Sv) (l:List Sg) (i:Nat):List Sg:=XP (λk _=>(D k).1) l i
def LI (D:Nat->Sg×Sv) (l:List Sv) (i:Nat):List Sv:=XP (λk _=>(D k).2) l i
def FC (l:List Int) (i:Nat):List Int:=XP (λ_ _=> -1) l i
def stW (js:List Jn) (D:Nat->Sg×Sv) (n i:Nat):List AV:=(List.range n).map λk=>if k<i then vA (JD (js.getD k default) (D k).1 (D k).2)else .agg [bA false,bA false,.s (.slice none 0 0),.s (.slice none 0 0)]
def stH (c:Cf) (now:Int) (ds:List xJ) (v:AV) (sg:List Sg) (sv:List Sv) (st:List Int):List (Nat×xO):=
 [(2,.box [zC wC c.js,zC wK c.ags,iA c.per,iA c.cap,iA c.hold,iA c.lock,bA false,iA now,zC zL ds,.ref 1012 0 (sg.map vH).length,.ref 1013 0 (sv.map vD).length,.ref 1014 0 (st.map iA).length,v]),(1012,.arr 5 (sg.map vH) false),(1013,.arr 3 (sv.map vD) false),(1014,.arr 1 (st.map iA) false)]
theorem zNn (c:Cf) (hv:FM c) (now:Int) (n0:0<=now) (n1:now<=1000000000) (ds:List xJ) (hd4:ds.length<=4) (hI:∀d∈ds,uU c d) (hs:∀d∈ds,FN now d.rq) (sg:List Sg) (sv:List Sv) (st:List Int) (vw:List Vw)
  (hg:sg.length=c.js.length) (hsv:sv.length=c.js.length) (hst:st.length=c.js.length) (hj:∀k,k<c.js.length->JI (c.js.getD k default) (sg.getD k default) (sv.getD k default) now):
  zN 155 [.ptr 2 0 0] (stH c now ds (zC vA vw) sg sv st) (.tup [])
   (stH c now ds (.ref 1015 0 c.js.length) (LH (YT c sg sv st ds now) sg c.js.length) (LI (YT c sg sv st ds now) sv c.js.length) (FC st c.js.length)++[(1015,.arr 4 (stW c.js (YT c sg sv st ds now) c.js.length c.js.length) false)]):=by
 have hjl:=zA wC c.js;have hgl:=zA vH sg;have hvl:=zA vD sv;have htl:=zA iA st;have hj4:=hv.j;unfold stH;refine eM call155 λF hF=>?_
 (repeat' (first|refine uP ?_|apply xM|apply xZ|intro hc|(refine zE ?_;first|(refine zE ?_;refine yJ (zNj Z Z Z) Z ?_)|(refine gP ?_;refine cW 1015 tok Z Z Z Z Z Z Z Z Z Z Z Z Z zB zB Z Z Z ?_))|fail))
 rw[hjl,hgl,hvl,hg,hsv,yGk,yGk]
 (repeat' (first|refine uP ?_|apply xM|apply xZ|intro hc|(refine zE ?_;first|(refine gP ?_;refine cW 1015 tok Z Z Z Z Z Z Z Z Z Z Z Z Z zB zB Z Z Z ?_))|fail))
 have hw0:∀D,stW c.js D c.js.length 0=List.replicate c.js.length (.agg [bA false,bA false,.s (.slice none 0 0),.s (.slice none 0 0)]):=λD=>by
  unfold stW;apply yBj;intro j;rw[yAi,yCb];by_cases hj:j<c.js.length
  ·rw[yBg hj,yAd hj];simp
  ·rw[yAc hj,yA1 wF];rfl
 have hC:=JP;have hG0:∀D,LH D sg 0=sg:=λD=>jL _ _
 have hV0:∀D,LI D sv 0=sv:=λD=>jL _ _
 have hK0:FC st 0=st:=jL _ _;have hgn:∀D i,((LH D sg i).map vH).length=c.js.length:=λD i=>by unfold LH;rw[yAe,wZ,hg]
 have hvn:∀D i,((LI D sv i).map vD).length=c.js.length:=λD i=>by unfold LI;rw[yAe,wZ,hsv]
 have hkn:∀i,((FC st i).map iA).length=c.js.length:=λi=>by unfold FC;rw[yAe,wZ,hst]
 have hwn:∀D i,(stW c.js D c.js.length i).length=c.js.length:=λD i=>by unfold stW;rw[yAe,yB1]
 rw[htl,hst,hgn,hvn,hkn];refine zO (c.js.length) [1012,1013,1014,1015,2] [2] [0,28] [29,0,28] Z (λi T U=>⟨(29,iA i)::T,(1012,.arr 5 ((LH (YT c sg sv st ds now) sg i).map vH) false)::(1013,.arr 3 ((LI (YT c sg sv st ds now) sv i).map vD) false)::(1014,.arr 1 ((FC st i).map iA) false)::(1015,.arr 4 (stW c.js (YT c sg sv st ds now) c.js.length i) false)::U⟩) ?_;(conv=>whnf);refine⟨by(rw[hG0,hV0,hK0,hw0];rfl),?_,?_⟩
 ·intro i hi;have hyj:=zM wC c.js i hi;have hyg:((LH (YT c sg sv st ds now) sg i).map vH)[i]? =some (vH (sg.getD i default)):=by rw[yAi];unfold LH;rw[uO,yAd zB,yAc (yEf i)];rfl
  have hyv:((LI (YT c sg sv st ds now) sv i).map vD)[i]? =some (vD (sv.getD i default)):=by rw[yAi];unfold LI;rw[uO,yAd zB,yAc (yEf i)];rfl
  have hyk:((FC st i).map iA)[i]? =some (iA (st.getD i default)):=by rw[yAi];unfold FC;rw[uO,yAd zB,yAc (yEf i)];rfl
  have hyw:(stW c.js (YT c sg sv st ds now) c.js.length i)[i]? =some (.agg [bA false,bA false,.s (.slice none 0 0),.s (.slice none 0 0)]):=bU _ _ _ _ hi;have eg:(LH (YT c sg sv st ds now) sg (i+1)).map vH=((LH (YT c sg sv st ds now) sg i).map vH).set i (vH (YT c sg sv st ds now i).1):=by unfold LH;rw[qE _ _ _ _ zB]
  have ev:(LI (YT c sg sv st ds now) sv (i+1)).map vD=((LI (YT c sg sv st ds now) sv i).map vD).set i (vD (YT c sg sv st ds now i).2):=by unfold LI;rw[qE _ _ _ _ zB]
  have ek:(FC st (i+1)).map iA=((FC st i).map iA).set i (iA (-1)):=by unfold FC;rw[qE _ _ _ _ zB]
  have ew:stW c.js (YT c sg sv st ds now) c.js.length (i+1)=(stW c.js (YT c sg sv st ds now) c.js.length i).set i (vA (JD (c.js.getD i default) (YT c sg sv st ds now i).1 (YT c sg sv st ds now i).2)):=dD _ _ _ _ hi;have J:=hv.jv _ (zQ c.js i hi);have H:=hj i hi;have cl:(dS (i:Int) ds).length<=4*ds.length:=hC i ds λd hd=>(hI d hd).v.n4
  have cm:=zNm (j:=(i:Int)) hI n0 hs;have hp:=hv.p;have hcp:=hv.cp;have hJn:=J.n;have hHn:=H.n;have HD:DcB c (sv.getD i default) (dS (i:Int) ds) now:=⟨hp.1,zB,zB,n0,n1,H.e,λx hx=>(cm x hx).1,λx hx=>(cm x hx).2,zB,zB⟩
  have kd:zN 190 [wD c,wC (c.js.getD i default),vH (sg.getD i default),vD (sv.getD i default),zC dZ (dS (i:Int) ds),iA (st.getD i default),iA now] [] (.tup [vH (YT c sg sv st ds now i).1,vD (YT c sg sv st ds now i).2]) []:=
   zQn c _ J _ H.c _ _ _ now HD (by have:=zNh c (sv.getD i default) (dS (i:Int) ds) now H.g;omega)
  have ko:=zK3 (c.js.getD i default) J (YT c sg sv st ds now i).1 (zXx J H.c _ _ _ _ _) (YT c sg sv st ds now i).2;have kc:=zGb c false now ds i zB (λd hd=>(hI d hd).bd) ((LH (YT c sg sv st ds now) sg i).map vH) ((LI (YT c sg sv st ds now) sv i).map vD) (((FC st i).map iA).set i (iA (-1))) (stW c.js (YT c sg sv st ds now) c.js.length i) c.js.length c.js.length c.js.length c.js.length;have hgl':=hgn (YT c sg sv st ds now) i;have hvl':=hvn (YT c sg sv st ds now) i;have hkl':=hkn i;have hwl':=hwn (YT c sg sv st ds now) i;rw[eg,ev,ek,ew];clear eg ev ek ew hG0 hV0 hK0 hw0 HD cm hC hgn hvn hkn hwn hj H J;generalize (LH (YT c sg sv st ds now) sg i).map vH=X at *;generalize (LI (YT c sg sv st ds now) sv i).map vD=Y at *;generalize (FC st i).map iA=Z' at *;generalize stW c.js (YT c sg sv st ds now) c.js.length i=W at *;generalize YT c sg sv st ds now i=p at *;generalize JD (c.js.getD i default) p.1 p.2=w at *;generalize dS (i:Int) ds=l at *;generalize sg.getD i default=s at *;generalize sv.getD i default=v at *;generalize st.getD i default=k at *;generalize c.js.getD i default=j at *;have hx1:(X.set i (vH p.1))[i]? =some (vH p.1):=yB5 zB;have hx2:(Y.set i (vD p.2))[i]? =some (vD p.2):=yB5 zB
  (have zc1:=kd;have zc2:=ko;(repeat' (first|refine uP ?_|apply xM|apply xZ|intro hc|(refine zE ?_;first|(refine vR 86 ?_;refine yJ (zNk (zI kc Z Z Z Z Z) Z Z) Z ?_))|fail))<;>clear zc1 zc2)
  rfl
 ·(refine WW ?_)
  exact jK [2,1012,1013,1014,1015] Z Z Z Z
structure CyI (y:Cy):Prop where
 v:FM y.c
 rf:y.rf=false
 n0:0<=y.now
 dl:y.ds.length=y.c.ags.length
 di:∀d∈y.ds,uU y.c d
 dg:∀a,a<y.ds.length->(y.ds.getD a default).rg.ag=y.c.ags.getD a default
 sc:∀d∈y.ds,FN y.now d.rq
 gl:y.sg.length=y.c.js.length
 sl:y.sv.length=y.c.js.length
 tl:y.st.length=y.c.js.length
 wl:y.vw.length=y.c.js.length
 wb:∀w∈y.vw,AZ w
 j:∀k,k<y.c.js.length->JI (y.c.js.getD k default) (y.sg.getD k default) (y.sv.getD k default) y.now
def ST {α:Type} [Inhabited α] {l:List α} {x:α} (h:x∈l):∃i,i<l.length/\l.getD i default=x:=by
 obtain⟨i,hi,e⟩:=yEa.1 h;exact⟨i,hi,by rw[yAk,yAr hi];exact e⟩
theorem CyI.b {y:Cy} (h:CyI y):CyB y:=by
 have ha:=h.v.a;have hj:=h.v.j;have h1:=h.dl;have h2:=h.gl;have h3:=h.sl;have h4:=h.tl;have h5:=h.wl;refine⟨zB,λd hd=>(h.di d hd).bd,zB,λs hs=>?_,zB,λs hs=>?_,zB,zB,λw hw=>?_⟩
 ·obtain⟨i,hi,rfl⟩:=ST hs;have J:=h.v.jv _ (zQ y.c.js i zB);have C:=(h.j i zB).c;have h6:=J.n;have h7:=C.n;have h8:=C.m;omega
 ·obtain⟨i,hi,rfl⟩:=ST hs;have J:=h.v.jv _ (zQ y.c.js i zB);have h6:=J.n;have h7:=(h.j i zB).n;omega
 ·have:=h.wb w hw;have h6:=this.n;have h7:=this.m;omega
def MX (c:Cf) (sg:List Sg) (ks:List Int):List Sg:=ks.foldl (λs x=>s.set x.toNat (srF (c.js.getD x.toNat default) (s.getD x.toNat default))) sg
def zNo (c:Cf) (sg:List Sg) (ks:List Int) (x:Int):MX c sg (ks++[x])=(MX c sg ks).set x.toNat (srF (c.js.getD x.toNat default) ((MX c sg ks).getD x.toNat default)):=by
 unfold MX;rw[yFi];rfl
def dF {α:Type} [Inhabited α] (l:List α) (i j:Nat) (x:α) (hj:j<l.length):(l.set i x).getD j default=if i=j then x else l.getD j default:=by
 rw[yAk,yCn,yAk];by_cases h:i=j
 ·subst h;rw[yAd Z,yAd hj,yAd Z];rfl
 ·rw[yAc h,yAc h]
theorem zEv {c:Cf} (hv:FM c) {sv:List Sv} {now:Int}:∀(ks:List Int) (sg:List Sg),sg.length=c.js.length->(∀k,k<c.js.length->JI (c.js.getD k default) (sg.getD k default) (sv.getD k default) now)->(MX c sg ks).length=c.js.length/\∀k,k<c.js.length->JI (c.js.getD k default) ((MX c sg ks).getD k default) (sv.getD k default) now
 | [],sg,hl,h=>⟨hl,h⟩
 |x::ks,sg,hl,h=>by
  have e:MX c sg (x::ks)=MX c (sg.set x.toNat (srF (c.js.getD x.toNat default) (sg.getD x.toNat default))) ks:=rfl;rw[e];refine zEv hv ks _ (by rw[yB7];exact hl) λk hk=>?_
  rw[dF _ _ _ _ zB];split
  ·rename_i hx;rw[hx];have H:=h k hk;exact⟨zZq (hv.jv _ (zQ c.js k hk)) H.c,H.n,H.e,H.g⟩
  ·exact h k hk
def zR3 (D:Nat->Sg×Sv) (l:List Sg) (n k:Nat) (h1:k<n) (h2:k<l.length):(LH D l n).getD k default=(D k).1:=by
 unfold LH;rw[yAk,uO,yAd h2,yAd h1];rfl
def zR4 (D:Nat->Sg×Sv) (l:List Sv) (n k:Nat) (h1:k<n) (h2:k<l.length):(LI D l n).getD k default=(D k).2:=by
 unfold LI;rw[yAk,uO,yAd h2,yAd h1];rfl
def AJ (js:List Jn) (D:Nat->Sg×Sv) (n:Nat):List Vw:=(List.range n).map λk=>JD (js.getD k default) (D k).1 (D k).2
def zR5 (js:List Jn) (D:Nat->Sg×Sv) (n:Nat):stW js D n n=(AJ js D n).map vA:=by
 unfold stW AJ;rw[dE,yEz];rfl
def AK (y:Cy) (R:Nat->DR):Nat->Sg×Sv:=YT y.c (MX y.c y.sg (RE R y.ds.length)) y.sv y.st (RD (y.now+1) y.ds R y.ds.length) (y.now+1)
def fZ (y:Cy) (R:Nat->DR):Cy:=
 ⟨y.c,false,y.now+1,RD (y.now+1) y.ds R y.ds.length,LH (AK y R) (MX y.c y.sg (RE R y.ds.length)) y.c.js.length,LI (AK y R) y.sv y.c.js.length,FC y.st y.c.js.length,AJ y.c.js (AK y R) y.c.js.length⟩
def TkR (y:Cy) (ins:List In) (R:Nat->DR):Prop:=∀a,a<y.ds.length->DtP y.c (y.now+1) (LE (y.ds.getD a default) (y.now+1)) (owI y.c ins a) (R a)/\zN 94 [wD y.c,zL (LE (y.ds.getD a default) (y.now+1)),zC kL (owI y.c ins a),iA (y.now+1)] [] (drT (R a)) []
def aY {now:Int} {ds:List xJ} {R:Nat->DR} {a:Nat} (ha:a<ds.length):(RD now ds R ds.length).getD a default=(R a).d:=by
 unfold RD;rw[dE,yAk,yAi,yBg ha];rfl
def eU (now:Int) (ds:List xJ) (R:Nat->DR):(RD now ds R ds.length).length=ds.length:=by simp[RD]
def SU {now:Int} {ds:List xJ} {R:Nat->DR} {d:xJ} (h:d∈RD now ds R ds.length):∃a,a<ds.length/\d=(R a).d:=by
 obtain⟨i,hi,rfl⟩:=ST h;rw[eU]at hi;exact⟨i,hi,aY hi⟩
def zNp (l:List Rq) (now:Int):UA l (zIw l now):=UA.filter _ _
noncomputable def dtR (y:Cy) (ins:List In) (a:Nat):DR:=VO y.c (LE (y.ds.getD a default) (y.now+1)) (owI y.c ins a) (y.now+1)
def zY6 {y:Cy} (h:CyI y) (hn:y.now<1000000000) {ins:List In} (hil:(ins.length:Int)=vM y.c.ags y.c.ags.length) (hin:∀i∈ins,InS i):TkR y ins (dtR y ins):=λa ha=>by
 have hI:=h.di _ (zQ y.ds a ha);obtain⟨b1,b2,_⟩:=zS1 hI (y.now+1);have hau:=hI.au;rw[h.dg a ha]at hau;have hs:=(h.v.av _ (zQ y.c.ags a (by have:=h.dl;omega))).e;have n0:=h.n0
 exact zGd y.c _ b1 (owI y.c ins a) (by unfold owI owP;rw[yAe,yB1];show _=(y.ds.getD a default).au.length;omega) (λi hi=>by
  unfold owI owP at hi;obtain⟨k,_,rfl⟩:=yBl.1 hi;by_cases hk:(vM y.c.ags a).toNat+k<ins.length
  ·exact hin _ (zQ ins _ hk)
  ·rw[yAk,yA1 zB]
   exact⟨yAt _,λx hx=>by cases hx⟩) (y.now+1) zB zB
def zTa {y:Cy} (h:CyI y) {ins:List In} {R:Nat->DR} (hR:TkR y ins R):CyI (fZ y R):=by
 have n0:=h.n0;have hg:=zEv h.v (sv:=y.sv) (now:=y.now) (RE R y.ds.length) y.sg h.gl h.j
 have hD:∀k,k<y.c.js.length->JI (y.c.js.getD k default) (AK y R k).1 (AK y R k).2 (y.now+1):=λk hk=>by
  have J:=h.v.jv _ (zQ y.c.js k hk);have H:=hg.2 k hk;exact yAb J zB ⟨H.c,H.n,λe he=>by have:=H.e e he;omega,H.g⟩ _ _ _
 have hsl:=h.sl;refine⟨h.v,rfl,by show 0<=y.now+1;omega,(eU ..).trans h.dl,λd hd=>?_,λa ha=>?_,λd hd=>?_,?_,?_,?_,?_,λw hw=>?_,λk hk=>?_⟩
 ·obtain⟨a,ha,rfl⟩:=SU hd;exact(hR a ha).1.i
 ·have ha':a<y.ds.length:=by rw[<-eU (y.now+1) y.ds R];exact ha
  show((RD (y.now+1) y.ds R y.ds.length).getD a default).rg.ag=_
  rw[aY ha',(hR a ha').1.ag];exact h.dg a ha'
 ·obtain⟨a,ha,rfl⟩:=SU hd;refine(hR a ha).1.sc ?_;exact FN.of zB ((h.sc _ (zQ y.ds a ha)).mono zB) (zNp _ _)
 ·show(LH _ _ _).length=_
  unfold LH;rw[wZ];exact hg.1
 ·show(LI _ _ _).length=_
  unfold LI;rw[wZ];exact h.sl
 ·show(FC _ _).length=_
  unfold FC;rw[wZ];exact h.tl
 ·show(AJ _ _ _).length=_
  simp[AJ,fZ]
 ·unfold fZ AJ at hw;obtain⟨k,hk,rfl⟩:=yBl.1 hw;exact zSt _ (h.v.jv _ (zQ y.c.js k (yA2.1 hk))) _ _
 ·show JI _ ((LH (AK y R) (MX y.c y.sg (RE R y.ds.length)) y.c.js.length).getD k default) ((LI (AK y R) y.sv y.c.js.length).getD k default) _
  have hk':k<y.c.js.length:=hk;rw[zR3 _ _ _ _ hk' (by rw[hg.1];exact hk'),zR4 _ _ _ _ hk' zB];exact hD k hk
def FD (y:Cy) (ins:List In) (R:Nat->DR) (n a k:Nat):List Ms:=if(ins.getD ((vM y.c.ags a).toNat+k) default).opn=true then tlF (y.ds.getD a default) y.vw y.now k (R a).R (LG R n)else []
def tdP (T:Nat->Nat->List Ms) (a k:Nat):List (List Ms):=(List.range k).map (T a)
def FE (c:Cf) (T:Nat->Nat->List Ms) (n:Nat):List (List Ms):=((List.range n).map λa=>tdP T a (c.ags.getD a default).ses.toNat).flatten
def tdA (T:List (List Ms)) (f:Ms):AV:= .agg [zC YO T,zC yB [f]]
def zNq (T:Nat->Nat->List Ms) (a k:Nat):tdP T a (k+1)=tdP T a k++[T a k]:=by simp[tdP,yCx]
def MY (c:Cf) (T:Nat->Nat->List Ms) (n:Nat):FE c T (n+1)=FE c T n++tdP T n (c.ags.getD n default).ses.toNat:=by simp[FE,yCx]
theorem SW {c:Cf} (hw:QP c.ags) (T:Nat->Nat->List Ms):∀n,n<=c.ags.length->((FE c T n).length:Int)=vM c.ags n
 |0,_=>rfl
 |n+1,hn=>by
  have ih:=SW hw T n zB;have:=hw.at (i:=n) zB;rw[MY,yAf]
  show _=vM c.ags n+(c.ags.getD n default).ses
  have:(tdP T n (c.ags.getD n default).ses.toNat).length=(c.ags.getD n default).ses.toNat:=by simp[tdP]
  omega
theorem SY {c:Cf} (hw:QP c.ags) (T:Nat->Nat->List Ms):∀n,n<=c.ags.length->∀s,s<(FE c T n).length->∃a k:Nat,a<n/\(k:Int)<(c.ags.getD a default).ses/\s=(vM c.ags a).toNat+k/\(FE c T n).getD s []=T a k
 |0,_,s,hs=>by cases hs
 | n+1,hn,s,hs=>by
  have hl:=SW hw T n zB;rw[MY]at hs⊢;by_cases h:s<(FE c T n).length
  ·obtain⟨a,k,h1,h2,h3,h4⟩:=SY hw T n zB s h;refine⟨a,k,zB,h2,h3,?_⟩;rw[yAk,yA9 h,<-yAk];exact h4
  ·rw[yAf]at hs;have hp:(tdP T n (c.ags.getD n default).ses.toNat).length=(c.ags.getD n default).ses.toNat:=by simp[tdP]
   refine⟨n,s-(FE c T n).length,zB,zB,zB,?_⟩;rw[yAk,yA4 zB];unfold tdP;rw[yAi,yBg zB];rfl
theorem xR.frz {P:Program} {f:Nat} {args:List AV} {r:AV} {h1:List (Nat×xO)} {r':AV} {h1':List (Nat×xO)} (h:xR P f args [] r h1) (K:List Nat) (hr:VH (wP K (zD h1) r)=r') (hh:wX K (zD h1)=h1') (hnd:vT h1'=true):xR P f args [] r' h1':=
 ⟨h.able,λk=>uV hnd,λX w β cargs hc H ha=>(h.sim X w β cargs hc H ha).mono λe w' ⟨c,β',he,G,hv⟩=>by
  obtain⟨H3,hv3⟩:=G.hok.restr K;refine⟨c,λk=>if k∈K then β' k else [],he,⟨G.size,G.keep,λk b n hm=>?_,G.bs,λk e he=>by simp[zD]at he,by rw[<-hh];exact H3,G.os,G.tape,G.output⟩,?_⟩
  ·split at hm
   ·exact G.own k b n hm
   ·simp at hm
  ·rw[<-hh,<-hr]
   exact(hv3 _ _ hv).wk⟩
end Av
end Go.Proofs.YteajjdidebfcjaaGreat
