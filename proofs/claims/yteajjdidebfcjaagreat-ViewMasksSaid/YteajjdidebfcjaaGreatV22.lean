/- Part 22. -/
import Derived.Test.YteajjdidebfcjaaGreatV21
namespace Go.Proofs.YteajjdidebfcjaaGreat
namespace Av
open Tryz
set_option linter.all false
set_option maxRecDepth 4000
set_option maxHeartbeats 8000000
section
variable {P:Program} {K0:List Nat} {F:Fr K0} {m:Nat} {ops:Array Oper} {rest:List Oper} {fs:List FP} {tm:List (Nat×AV)} {h:List (Nat×xN)}
def zBm {Q:List FP->St->Prop} (t K sz:Nat) (hv:zG tm t= .s (.slice none 0 0)) (hK:(zC h K).isNone=true) (hp:Nat.ble 1 sz=true) (h1:yE P F m ops false rest ⟨(t,.ref K 0 0)::tm,(K,.arr sz [] true)::h⟩ fs Q):yE P F m ops false rest ⟨tm,h⟩ fs Q:=
 ⟨λa w R=>h1.run a w (wN.virt R t K sz hv hK hp)⟩
end
def zUv (m:Ms) (h:RT m):zO 194 [yF m] [] (bA false) []:=by
 obtain⟨k,tk,ar,da⟩:=m;obtain⟨h1,h2⟩:=h;dsimp only at h1 h2;subst h1;have c:=zRx h2;rw[show yF ⟨k,[],ar,da⟩= .agg [iA k,zD yA [],zD iA ar,zD yA da]from Z]at *; refine eM call194 λF hF=>?_
 refine zY c ?_;exact zJ
def zW0 (l:List Ms) (hl9:l.length<=1000000) (h:∀m∈l,RT m):zO 216 [zD yF l,.fn 194 []] [] (iA (-1)) []:=by
 have hl:=zA yF l;refine eM call216 λF hF=>?_
 refine WW ?_;refine yT (l) [] [] [0,1,7] [8,0,1,7] Z (λi pre T U=>⟨(8,iA i)::T,U⟩) ?_;(conv=>whnf);refine⟨by rfl,?_,?_⟩
 ·intro i pre x post hx hi;have hy:=xQ yF hx hi;have hlt:=yW hx hi;have c:=zUv x (h x (vF hx));clear hx;refine zY c ?_;rfl
 ·(refine WW ?_)
  exact zJ
def zUw (l:List Ms) (hl9:l.length<=1000000) (h:∀m∈l,RT m):zO 193 [zD yF l,.fn 194 []] [] (zD yF l) []:=by
 have c:=zW0 l hl9 h;have hl:=zA yF l;refine eM call193 λF hF=>?_
 refine zY c ?_;exact zJ
def BB (l:List Ms) (hl9:l.length<=1000000) (h:∀m∈l,RT m):zO 158 [zD yF l] [] (zD yF l) []:=by
 have c:=zUw l hl9 h;have hl:=zA yF l;refine eM call158 λF hF=>?_
 refine zY c ?_;exact zJ
def zLv (y:Int):0<=WK y/\WK y<256:=by
 unfold WK;have e:IntKind.u8.wrap y=y % 256:=by simp[IntKind.wrap,IntKind.signed,IntKind.bits]
 rw[e];omega
def zLw {l:List Vw} (h:∀v∈l,BL v):BY (WM l):=λx hx=>by
 unfold WM at hx;obtain⟨y,hy,hx⟩:=yBi.1 hx;obtain⟨v,hv,rfl⟩:=zZn.1 hy;have hb:=h v hv;have hc:=JQ hb.c v.co.length (zX7 _) hb.n;have hp:=WN v.co.length hb.n;have hs:=zVk (n:=jC v.co v.co.length) hc.1 zB;unfold vwF at hx;simp only[yA0,yAm,zZg,zZn]at hx
 rcases hx with rfl|rfl|rfl|⟨y,_,rfl⟩
 ·unfold hdF
  split<;>split<;>omega
 ·omega
 ·exact zLv _
 ·exact zLv _
def zUx (l:List Rq) (v:List Vw) (now:Int) (n:Nat):BY (cqL l v now n):=λx hx=>by
 unfold cqL at hx;obtain⟨i,_,rfl⟩:=zZn.1 hx;unfold cqF;split
 ·have:=zHp ((l.getD (i/3) default).legs.getD (i % 3) default) v now;omega
 ·omega
def zLx (d:xI) (hq:0<=d.rg.ag.req/\d.rg.ag.req<=4) (v:List Vw) (now:Int) (n0:0<=now) (n1:now<=1073741824) (hn:v.length<=4) (hb:∀w∈v,BL w):RT (cD d v now):=by
 have h1:=UG hb;have h2:=dT [now];have h3:(cqL d.rq v now (d.rg.ag.req.toNat*3)).length=d.rg.ag.req.toNat*3:=by simp[cqL]
 refine⟨rfl,by dsimp only[cD,stM];omega,.cons zB .nil,by simp[cD,stM],?_,.inl Z,.inl ⟨rfl,rfl⟩,?_⟩
 ·intro x hx
  rcases zYy.1 hx with hx|hx
  ·exact zLw hb x hx
  ·exact zUx _ _ _ _ x hx
 ·show(([now].map gW).flatten).length+1+(WM v++cqL d.rq v now (d.rg.ag.req.toNat*3)).length<=200
  rw[zX4];simp only[zYh,zZc]at h2;omega
def LD (now:Int) (v:List Vw):Ms:=⟨21,[],[now],WM v⟩
def zW1 (v:List Vw) (now:Int) (n0:0<=now) (n1:now<=1073741824) (hn:v.length<=4) (hb:∀w∈v,BL w):RT (LD now v):=by
 have h1:=UG hb;have h2:=dT [now];refine⟨rfl,by dsimp only[LD];omega,.cons zB .nil,by simp[LD],zLw hb,.inl Z,.inl ⟨rfl,rfl⟩,?_⟩
 show(([now].map gW).flatten).length+1+(WM v).length<=200
 simp only[zYh,zZc]at h2;omega
def zUy (now:Int) (v:List Vw) (hn:v.length<=1000) (hb:∀w∈v,BL w):zO 159 [iA now,zD vW v] [] (yF (LD now v)) []:=by
 have kr:=zHo v hn hb;have hrl:=zA yA (WM v);refine eM call159 λF hF=>?_
 refine zY kr ?_;refine zI [] Z Z ?_ Z;exact zY3 (λz=>AV.agg [iA 21,AV.sl false [],AV.sl false [iA now],AV.sl false z]) zX6
def YQ (e:En):List Int:=[e.ag,e.ki,e.co]
def trM (now:Int) (en:List En):Ms:=⟨18,[],now::((en.take 16).map YQ).flatten,[]⟩
def zXz (now:Int) (n0:0<=now) (n1:now<=1073741824) (en:List En) (h:∀e∈en,EnK e):RT (trM now en):=by
 have hl:(en.take 16).length<=16:=by rw[zYn];omega
 have hm:∀e∈en.take 16,EnK e:=λe he=>h e (zZl he)
 unfold trM;generalize en.take 16=l at*
 have h3:((l.map YQ).flatten).length=3*l.length:=by
  clear hm hl
  induction l with
  |nil=>rfl
  |cons e l ih=>rw[zZj,yAt,zX4,ih,zYh];show 3+_=_;omega
 have hz:((((l.map YQ).flatten).map gW).flatten).length<=4*l.length:=by
  clear h3 hl
  induction l with
  |nil=>simp
  |cons e l ih=>
   have ih:=ih λx hx=>hm x OU
   have he:=hm e zW;have e1:=FG (n:=e.ag) (by have:=he.a;omega);have e2:=zU8 (n:=e.ki) (by have:=he.k;omega);have e3:=FG (n:=e.co) (by have:=he.c;omega);rw[zZj,yAt,zYd,yCr,zX4,zYh];simp only[YQ,zZj,yAl,yAt,List.flatten_nil,zX4,zY4];omega
 have e0:=(hH now).2;refine⟨rfl,by dsimp only;omega,?_,by dsimp only;rw[zYh];omega,λx hx=>(by cases hx),.inr Z,.inr ⟨.inr Z,(l.length:Int),?_,zB,by show(0:Int)<=_;omega,by show _<=(16:Int);omega⟩,?_⟩
 ·refine .cons zB ?_;intro x hx;obtain⟨y,hy,hx⟩:=yBi.1 hx;obtain⟨e,he,rfl⟩:=zZn.1 hy;have hk:=hm e he;have h1:=hk.a;have h2:=hk.k;have h4:=hk.c;simp only[YQ,zZg,yBj,yCo]at hx;omega
 ·show((now::(l.map YQ).flatten).length:Int)=1+3*(l.length:Int)
  rw[zYh];omega
 ·show(((now::(l.map YQ).flatten).map gW).flatten).length+1+0<=200
  rw[zZj,yAt,zX4];omega
def tlF (d:xI) (vw:List Vw) (now:Int) (k:Nat) (R:List (List Ms)) (en:List En):List Ms:=(R.getD k []++[cD d vw now])++(if d.au.getD k default=true then [trM now en]else [])
def zRd (d:xI) (hq:0<=d.rg.ag.req/\d.rg.ag.req<=4) (v:List Vw) (now:Int) (n0:0<=now) (n1:now<=1073741824) (hn:v.length<=4) (hb:∀w∈v,BL w) (k:Nat) (R:List (List Ms)) (hR:∀l∈R,l.length<=1000/\∀m∈l,RT m) (hk:k<R.length) (en:List En) (h:∀e∈en,EnK e):(tlF d v now k R en).length<=1002/\∀m∈tlF d v now k R en,RT m:=by
 have hr:R.getD k []∈R:=by
  rw[zYc,zYk hk];exact yAr _
 obtain⟨h1,h2⟩:=hR _ hr;unfold tlF;refine⟨?_,λm hm=>?_⟩
 ·rw[zX4,zX4];split
  ·simp only[zYh,zZc];omega
  ·simp only[zYh,zZc];omega
 ·rcases zYy.1 hm with hm|hm
  ·rcases zYy.1 hm with hm|hm
   ·exact h2 m hm
   ·rw[zZd.1 hm];exact zLx d hq v now n0 n1 hn hb
  ·split at hm
   ·rw[zZd.1 hm];exact zXz now n0 n1 en h
   ·cases hm
def zX0 (en:List En):en.take (min ((en.map gX).length:Int) 16).toNat=en.take 16:=by
 rw[zX5];by_cases h:en.length<=16
 ·rw[zYe zB,zYe zB]
 ·congr 1
  omega
theorem zP7 (y:Cy) (n0:0<=y.now) (n1:y.now<=1073741824) (a k s:Nat) (ha:a<y.ds.length) (hd:cO (y.ds.getD a default)) (hq:0<=(y.ds.getD a default).rg.ag.req/\(y.ds.getD a default).rg.ag.req<=4) (hn:y.vw.length<=4) (hb:∀w∈y.vw,BL w) (hk:k<(y.ds.getD a default).au.length)
  (R:List (List Ms)) (hR:∀l∈R,l.length<=1000/\∀m∈l,RT m) (hkR:k<R.length) (en:List En) (he:∀e∈en,EnK e) (hel:en.length<=100000):
  zO 157 [qJ y,plA a k s,zD ZX R,zD gX en] [] (zD yF (tlF (y.ds.getD a default) y.vw y.now k R en)) []:=by
 have ht:=zRd _ hq y.vw y.now n0 n1 hn hb k R hR hkR en he;have kv:=BB (tlF (y.ds.getD a default) y.vw y.now k R en) zB ht.2;have ks:=FT (y.ds.getD a default) hd hq y.vw y.now zB hb;have hyd:=zM zK y.ds a ha;have hyr:=zM ZX R k hkR;have hyk:=zM bA (y.ds.getD a default).au k hk;have hlr:=zA ZX R;have hle:=zA gX en;have hlk:=zA bA (y.ds.getD a default).au;have hR1:=(hR _ (zX R k hkR)).1;have eR:R.getD k default=R.getD k []:=rfl;unfold qJ XK;unfold tlF at kv⊢;rw[eR]at hyr hR1;generalize cD (y.ds.getD a default) y.vw y.now=st at *;generalize R.getD k []=rp at *;have hlp:=zA yF rp;unfold ZX zD at hyr;generalize y.ds.getD a default=d at *;unfold zK wI at hyd ks;refine eM call157 λF hF=>?_
 refine zY ks ?_;refine zBm 25 1001 4 Z Z Z ?_;generalize d.au.getD k default=b at *;cases b
 ·have e1:zD yF ((rp++[st])++if false=true then [trM y.now en]else [])= .sl false (rp.map yF++[yF st]):=by
   rw[zX2 zYp,zY4];unfold zD;rw[zYd];rfl
  rw[e1]at kv⊢
  (have zc1:=ks;(repeat' (first|refine uJ ?_|apply xL|apply wB|intro hc|(refine zE ?_;first|refine SM ?_)|fail))<;>clear zc1)
  (refine vP 158 ?_;refine wJ [] [85] Z ?_;(conv=>whnf);(try simp only[zYq,zX6]);first|refine zP (zH (kv) Z Z Z Z Z) Z ?_|refine qE (zH (kv) Z Z Z Z Z) Z Z Z ?_|refine ZJ (zH (kv) Z Z Z Z Z) Z Z Z ?_)
  (repeat' (first|refine uJ ?_|apply xL|apply wB|intro hc|(refine zE ?_;first|refine SM ?_)|fail))
  exact zJ
 ·have e1:zD yF ((rp++[st])++if true=true then [trM y.now en]else [])= .sl false ((rp.map yF++[yF st])++[yF (trM y.now en)]):=by
   rw[zX3 Z];unfold zD;rw[zYd,zYd];rfl
  rw[e1]at kv⊢
  (have zc1:=ks;(repeat' (first|refine uJ ?_|apply xL|apply wB|intro hc|(refine zE ?_;first|refine SM ?_)|fail))<;>clear zc1)
  rw[zX0];have hl16:(en.take 16).length<=16:=by rw[zYn];omega
  have hl17:=zA gX (en.take 16);rw[show yF (trM y.now en)= .agg [iA 18,.sl false [],.sl false ((y.now::((en.take 16).map YQ).flatten).map iA),.sl false []]from Z]at *; generalize en.take 16=l16 at *;refine qH 57 Z ?_;refine yT (l16) [11,57,1001] [1001] [10,11,63,64] [65,10,11,63,64] Z (λi pre T U=>⟨(65,iA i)::T,(11,.box [iA 18,.s (.slice none 0 0),.ref 57 0 ((y.now::(pre.map YQ).flatten).map iA).length,.s (.slice none 0 0)])::(57,.arr 1 ((y.now::(pre.map YQ).flatten).map iA) true)::U⟩) ?_;(conv=>whnf);refine⟨by rfl,?_,?_⟩
  ·intro i pre x post hx hi;have hy:=xQ gX hx hi;have hlt:=yW hx hi
   have hpl:((pre.map YQ).flatten).length=3*pre.length:=by
    clear hx hi hy
    induction pre with
    |nil=>rfl
    |cons e l ih=>rw[zZj,yAt,zX4,ih,zYh];show 3+_=_;omega
   have hpm:=zA iA (y.now::(pre.map YQ).flatten);rw[zYh]at hpm;rw[zYd,yCr];rw[show(y.now::((pre.map YQ).flatten++([x].map YQ).flatten)).map iA=(y.now::(pre.map YQ).flatten).map iA++[iA x.ag,iA x.ki,iA x.co] by simp[YQ]];unfold gX MN at hy;clear hx kv ks e1;generalize (y.now::(pre.map YQ).flatten).map iA=X at *;refine WW ?_;rfl
  ·refine uS [11,1001] [10,11,63,64,65] Z ?_
   (conv=>whnf)
   simp only[zYq,zX6]
   (repeat' (first|refine MF ?_|apply xL|apply wB|intro hc|(refine zE ?_;first|(refine xR ?_;refine DA 82 Z Z Z ?_;refine bV tok Z Z ?_))|refine SB ?_|fail))
   (refine vP 158 ?_;refine wJ [] [85] Z ?_;(conv=>whnf);(try simp only[zYq,zX6]);first|refine zP (zH (kv) Z Z Z Z Z) Z ?_|refine qE (zH (kv) Z Z Z Z Z) Z Z Z ?_|refine ZJ (zH (kv) Z Z Z Z Z) Z Z Z ?_)
   (repeat' (first|refine uJ ?_|apply xL|apply wB|intro hc|(refine zE ?_;first|refine SM ?_)|fail))
   exact zJ
def zLy (b:List Int) (hb:BY b) (hl:b.length<=1000) (g:Bool) (N:Nat) (hN:1<=N/\N<=1000):zO 126 [stA b g,iA N] []
  (.tup [stA (b.drop (XQ N (fB b.length b) ⟨0,g,[]⟩).t) (XQ N (fB b.length b) ⟨0,g,[]⟩).g,zD wO (XQ N (fB b.length b) ⟨0,g,[]⟩).its]) []:=by
 have k:=zMl b hb hl g N hN;generalize XQ N (fB b.length b) ⟨0,g,[]⟩=r at *;unfold stA at *;refine eM call126 λF hF=>?_
 repeat' (first|(refine zE ?_;first|refine qE (jM (v:=AV.agg _) 2 Z Z) Z Z Z ?_|refine qE (jM (v:=AV.s _) 1053 Z Z) Z Z Z ?_|refine wL tok Z Z ?_|refine jX tok Z Z Z Z ?_|refine uI ?_)|(first|refine xS ?_|refine xC ?_|refine vQ Z ?_|refine yC Z ?_|refine zU Z ?_|refine xH Z (λhc=>?_) λhc=>?_|refine yZ ?_|refine yU ?_|refine xB ?_|refine yQ ?_))
 refine zY k ?_;exact zJ
def zW2 (b:List Int) (hl:b.length<=256) (g:Bool) (x:List Int) (hx:x.length<=1000000):zO 117 [stA b g,zD yA x] [] (.tup [stA (b++x.take (UF b.length x.length)) g,bA (decide (UF b.length x.length=x.length))]) []:=by
 have hbl:=zA yA b;have hxl:=zA yA x;have hf:UF b.length x.length<=x.length/\b.length+UF b.length x.length<=256:=by unfold UF;omega
 have e1:min ((x.length:Nat):Int) (max (256-((b.length:Nat):Int)) 0)=((UF b.length x.length:Nat):Int):=by unfold UF;omega
 have e2:zD yA (b++x.take (UF b.length x.length))= .sl false (b.map yA++(x.take (UF b.length x.length)).map yA):=by unfold zD;rw[zYd]
 unfold stA;rw[e2];generalize UF b.length x.length=f at *;refine eM call117 λF hF=>?_
 refine WW ?_;rw[hbl,hxl,e1];refine zI [] Z Z ?_ Z
 show AV.tup [AV.agg [AV.sl false (List.take (b.map yA++(x.take f).map yA).length (b.map yA++(x.take f).map yA)),bA g],bA (qQ .eql (f:Int) (x.length:Int))]=_
 rw[zX6,show qQ .eql (f:Int) (x.length:Int)=decide (f=x.length) by
  by_cases h9:f=x.length
  ·rw[h9];simp[qQ]
  ·have:(f:Int)≠(x.length:Int):=by omega
   simp[qQ,h9,this]]
def VV (s:Ss):Ss×In:=if s.op=true then(⟨true,false,s.bf.drop (XQ 4 (fB s.bf.length s.bf) ⟨0,s.gb,[]⟩).t,(XQ 4 (fB s.bf.length s.bf) ⟨0,s.gb,[]⟩).g⟩,⟨true,(if s.dr=true then [⟨15,0,[]⟩]else [])++(XQ 4 (fB s.bf.length s.bf) ⟨0,s.gb,[]⟩).its⟩)else(s,⟨false,[]⟩)
def zDt (s:Ss) (hb:BY s.bf) (hl:s.bf.length<=1000):zO 93 [jB s] [] (.tup [jB (VV s).1,kX (VV s).2]) []:=by
 obtain⟨op,dr,bf,gb⟩:=s;dsimp only at hb hl;have k1:=JJ ⟨op,dr,bf,gb⟩ hl;have k2:=zLy bf hb hl gb 4 zB;have hlen:=KV (N:=4) (fB bf.length bf) ⟨0,gb,[]⟩ (by show 0<4;omega);unfold VV;dsimp only;generalize XQ 4 (fB bf.length bf) ⟨0,gb,[]⟩=r at *;have hrl:=zA wO r.its;unfold stA at k2;cases op
 ·rw[zX2 zYp];unfold jB at *;unfold kX;refine eM call93 λF hF=>?_
  refine zY k1 ?_;exact zJ
 ·rw[zX3 Z];unfold jB at *;unfold kX;cases dr
  ·rw[zX2 zYp,yAm];refine eM call93 λF hF=>?_
   refine zY k2 ?_;refine zBm 32 1055 3 Z Z Z ?_;refine WW ?_;refine zI [] Z Z ?_ Z
   show AV.tup [_,AV.agg [_,AV.sl false (List.take (r.its.map wO).length (r.its.map wO))]]=_
   rw[zX6];rfl
  ·rw[zX3 Z,show zD wO ([⟨15,0,[]⟩]++r.its)= .sl false ([.agg [iA 15,iA 0,zD yA []]]++r.its.map wO) by unfold zD;rw[zYd];rfl];refine eM call93 λF hF=>?_
   (have zc1:=k2;(repeat' (first|refine MF ?_|apply xL|apply wB|intro hc|(refine zE ?_;first|(refine xR ?_;refine DA 18 Z Z Z ?_;refine bV tok Z Z ?_))|refine SB ?_|fail))<;>clear zc1)
   refine zBm 17 1055 3 Z Z Z ?_
   (have zc1:=k2;(repeat' (first|refine uJ ?_|apply xL|apply wB|intro hc|(refine zE ?_;first|refine SM ?_)|fail))<;>clear zc1)
   refine zI [] Z Z ?_ Z
   show AV.tup [_,AV.agg [_,AV.sl false (List.take ([AV.agg [iA 15,iA 0,zD yA []]]++r.its.map wO).length ([AV.agg [iA 15,iA 0,zD yA []]]++r.its.map wO))]]=_
   rw[zX6];rfl
def zDu (s:Ss) (hl:s.bf.length<=1000):zO 79 [jB s] [] (jB (if s.op=true then s else⟨true,false,[],false⟩)) []:=by
 obtain⟨op,dr,bf,gb⟩:=s;dsimp only at hl⊢;have k1:=JJ ⟨op,dr,bf,gb⟩ hl;cases op
 ·rw[zX2 zYp];unfold jB at *;refine eM call79 λF hF=>?_
  refine zY k1 ?_;exact zJ
 ·rw[zX3 Z];unfold jB at *;refine eM call79 λF hF=>?_
  refine zY k1 ?_;exact zJ
def zP8 (s:Ss):zO 80 [jB s] [] (jB ⟨false,false,[],false⟩) []:=by
 unfold jB;refine eM call80 λF hF=>?_
 refine WW ?_;exact zJ
def zUz (s:Ss) (hl:s.bf.length<=256) (x:List Int) (hx:x.length<=1000000):zO 81 [jB s,zD yA x] [] (jB (FK s x)) []:=by
 obtain⟨op,dr,bf,gb⟩:=s;dsimp only at hl;have k1:=JJ ⟨op,dr,bf,gb⟩ (by dsimp only;omega);have k2:=zW2 bf hl gb x hx;unfold FK;dsimp only;unfold stA at k2;cases op
 ·rw[zX2 zYp];unfold jB at *;refine eM call81 λF hF=>?_
  refine zY k1 ?_;exact zJ
 ·rw[zX3 Z];unfold jB at *;cases hf:decide (UF bf.length x.length=x.length)
  ·rw[hf]at k2;rw[zYa (of_decide_eq_false hf),yBp];refine eM call81 λF hF=>?_
   refine zY k2 ?_;exact zJ
  ·rw[hf]at k2;rw[zYb (λh=>h (yB8 hf)),yD3];refine eM call81 λF hF=>?_
   refine zY k2 ?_;exact zJ
structure SsI (s:Ss):Prop where
 y:BY s.bf
 n:s.bf.length<=256
def zLz {s:Ss} (h:SsI s):SsI (VV s).1/\InS (VV s).2:=by
 have hn:=h.n;unfold VV;split
 ·refine⟨⟨λx hx=>h.y x (zY1 hx),by dsimp only;rw[zYv];omega⟩,?_⟩;have hlen:=KV (N:=4) (fB s.bf.length s.bf) ⟨0,s.gb,[]⟩ (by show 0<4;omega);have hmem:=zBz (N:=4) (Pr:=ItK) (fB s.bf.length s.bf) ⟨0,s.gb,[]⟩ (λx hx=>by cases hx) (zMi h.y zB);generalize XQ 4 (fB s.bf.length s.bf) ⟨0,s.gb,[]⟩=r at *;refine⟨?_,λx hx=>?_⟩
  ·dsimp only;rw[zX4];split
   ·simp only[zYh,zZc];omega
   ·simp only[zZc];omega
  ·rcases zYy.1 hx with hx|hx
   ·split at hx
    ·rw[zZd.1 hx];exact⟨jP,zYl _,by dsimp only;omega,by dsimp only;omega⟩
    ·cases hx
   ·exact hmem x hx
 ·exact⟨h,zYl _,λx hx=>by cases hx⟩
def zU0 {s:Ss} (h:SsI s) {x:List Int} (hx:BY x):SsI (FK s x):=by
 refine⟨?_,zMz h.n x⟩;unfold FK;split
 ·intro y hy
  rcases zYy.1 hy with hy|hy
  ·exact h.y y hy
  ·exact hx y (zZl hy)
 ·exact h.y
def BS (ins:List In) (b k:Nat):List In:=(List.range k).map λj=>ins.getD (b+j) default
def zL0 (ins:List In) (b k:Nat):BS ins b (k+1)=BS ins b k++[ins.getD (b+k) default]:=by simp[BS,yAw]
def owI (c:Cf) (ins:List In) (a:Nat):List In:=BS ins (qV c.ags a).toNat (c.ags.getD a default).ses.toNat
def rpA (r:DR):AV:=zD ZX r.R
def bgL (now:Int) (ds:List xI) (i:Nat):List xI:=YY (λ_ d=>MC d now) ds i
def SP (now:Int) (ds:List xI) (rF:Nat->DR) (i:Nat):List xI:=(List.range ds.length).map λk=>if k<i then(rF k).d else MC (ds.getD k default) now
def rpL (n:Nat) (rF:Nat->DR) (i:Nat):List AV:=(List.range n).map λk=>if k<i then rpA (rF k)else .s (.slice none 0 0)
def MH (rF:Nat->DR) (i:Nat):List En:=((List.range i).map λk=>(rF k).en).flatten
def ST (rF:Nat->DR) (i:Nat):List Int:=((List.range i).map λk=>(rF k).ks).flatten
def BC (rF:Nat->DR) (i:Nat):MH rF (i+1)=MH rF i++(rF i).en:=by simp[MH,yAw]
def BD (rF:Nat->DR) (i:Nat):ST rF (i+1)=ST rF i++(rF i).ks:=by simp[ST,yAw]
theorem HY {rF:Nat->DR} (h:∀i,(rF i).en.length<=2000):∀i,(MH rF i).length<=2000*i
 |0=>zYl _
 |i+1=>by
  have:=HY h i;have:=h i;rw[BC,zX4];omega
theorem HZ {rF:Nat->DR} (h:∀i,(rF i).ks.length<=2000):∀i,(ST rF i).length<=2000*i
 |0=>zYl _
 |i+1=>by
  have:=HZ h i;have:=h i;rw[BD,zX4];omega
def dX {α:Type} (n i:Nat) (f g:Nat->α) (hi:i<n):((List.range n).map λk=>if k<i+1 then f k else g k)=((List.range n).map λk=>if k<i then f k else g k).set i (f i):=by
 apply zZf;intro j;rw[yAb,zX8,zX8,zX5,zZr];by_cases hj:j<n
 ·rw[zY5 hj];by_cases h:i=j
  ·subst h;rw[zX3 Z,zX3 hi];simp
  ·rw[zX2 h];by_cases h2:j<i
   ·simp[h2,show j<i+1 by omega]
   ·simp[h2,show¬j<i+1 by omega]
 ·rw[zYx xX];by_cases h:i=j
  ·omega
  ·simp[h]
def aF {α:Type} (n i:Nat) (f g:Nat->α) (hi:i<n):((List.range n).map λk=>if k<i then f k else g k)[i]? =some (g i):=by
 rw[zX8,zY5 hi];simp
def dY {α:Type} (n:Nat) (f g:Nat->α):((List.range n).map λk=>if k<n then f k else g k)=(List.range n).map f:=by
 apply yA3;intro k hk;rw[zX3 (zYs.1 hk)]
def TZ {l:List Ag} (h:AD l) {i j:Nat} (hij:i<=j) (hj:j<=l.length):qV l i<=qV l j:=by
 induction j with
 |zero=>rw[show i=0 by omega];exact yAc _
 | succ j ih=>
  by_cases h1:i=j+1
  ·rw[h1];exact yAc _
  ·have h2:=ih zB zB;have h3:=h.at (i:=j) zB
   show qV l i<=qV l j+(l.getD j default).ses
   omega
theorem zFr (c:Cf) (hw:AD c.ags) (now:Int) (n0:0<=now) (n1:now<=1073741824) (ds:List xI) (hdl:ds.length=c.ags.length) (hI:∀i,i<ds.length->qF c (ds.getD i default)) (ins:List In) (hil:(ins.length:Int)=qV c.ags c.ags.length)
  (rF:Nat->DR) (hen:∀i,(rF i).en.length<=2000) (hks:∀i,(rF i).ks.length<=2000) (hr:∀i,i<ds.length->zO 94 [vL c,zK (MC (ds.getD i default) now),zD kX (owI c ins i),iA now] [] (drT (rF i)) [])
  (A B C:List AV) (a2 a3 a4:Nat) (vw:List Vw):
  zO 153 [XK c false now (.ref 1011 0 (ds.map zK).length) (.ref 1012 0 a2) (.ref 1013 0 a3) (.ref 1014 0 a4) (zD vW vw),zD kX ins] [(1011,.arr 17 (ds.map zK) false),(1012,.arr 5 A false),(1013,.arr 3 B false),(1014,.arr 1 C false)]
   (.tup [.sl false ((List.range ds.length).map λk=>rpA (rF k)),zD gX (MH rF ds.length),zD iA (ST rF ds.length)]) [(1011,.arr 17 ((SP now ds rF ds.length).map zK) false),(1012,.arr 5 A false),(1013,.arr 3 B false),(1014,.arr 1 C false)]:=by
 have hdm:=zA zK ds;have hal:=zA vU c.ags;have hn4:=hw.1;have hbl:∀i,(bgL now ds i).length=ds.length:=λi=>vE _ _ _
 have hbm:∀i,((bgL now ds i).map zK).length=ds.length:=λi=>by rw[zX5,hbl]
 have hb0:bgL now ds 0=ds:=jU _ _;unfold XK;refine eM call153 λF hF=>?_
 refine WW ?_;refine zS (ds.length) [1011,2,3,1012,1013,1014] [2,3,1012,1013,1014] [2,3,21,57] [22,2,3,21,57] Z (λi T U=>⟨(22,iA i)::T,(1011,.arr 17 ((bgL now ds i).map zK) false)::U⟩) ?_;(conv=>whnf);refine⟨by(rw[hb0];rfl),?_,?_⟩
 ·intro i hi
  have hy:((bgL now ds i).map zK)[i]? =some (zK (ds.getD i default)):=by
   rw[zX8];unfold bgL;rw[qD,zX3 hi,zX2 (yB7 i)];rfl
  have e:(bgL now ds (i+1)).map zK=((bgL now ds i).map zK).set i (zK (MC (ds.getD i default) now)):=by unfold bgL;rw[qP _ _ _ _ hi]
  have kb:=EC (hI i hi) now;have hxl:=hbm i;rw[e];clear e hr hI hb0;generalize MC (ds.getD i default) now=d2 at *;generalize ds.getD i default=d1 at *;generalize (bgL now ds i).map zK=X at *;refine zY kb ?_;rfl
 ·have hbn:(bgL now ds ds.length).map zK=(SP now ds rF 0).map zK:=by
   congr 1
   unfold SP;apply zZf;intro j;unfold bgL;rw[qD,zX8];by_cases hj:j<ds.length
   ·rw[zX3 hj,zX3 hj,zY5 hj];simp
   ·rw[zX2 hj,zYx xX];rfl
  rw[hbn];refine WW ?_;have hmin:min (ds.length:Int) (c.ags.length:Int)=(ds.length:Int):=by rw[hdl];exact yD5 _
  rw[hdm,hal,hmin]
  have hr0:rpL ds.length rF 0=List.replicate ds.length (.s (.slice none 0 0)):=by
   unfold rpL;apply zZf;intro j;rw[zX8,zZ0];by_cases hj:j<ds.length
   ·rw[zY5 hj,zX3 hj];simp
   ·rw[zX2 hj,zYx xX];rfl
  have hrl:∀i,(rpL ds.length rF i).length=ds.length:=λi=>by unfold rpL;rw[zX5,zZr]
  have htl:∀i,((SP now ds rF i).map zK).length=ds.length:=λi=>by unfold SP;rw[zX5,zX5,zZr]
  refine xA 9 1042 3 Z Z Z ?_;refine xA 10 1043 1 Z Z Z ?_;refine zS (ds.length) [41,1011,1042,1043,2,3,1012,1013,1014] [2,3,1012,1013,1014] [2,3,8,49,57] [9,10,50,2,3,8,49,57] Z (λi T U=>⟨(9,.ref 1042 0 ((MH rF i).map gX).length)::(10,.ref 1043 0 ((ST rF i).map iA).length)::(50,iA i)::T,(41,.arr 1 (rpL ds.length rF i) false)::(1011,.arr 17 ((SP now ds rF i).map zK) false)::(1042,.arr 3 ((MH rF i).map gX) true)::(1043,.arr 1 ((ST rF i).map iA) true)::U⟩) ?_;(conv=>whnf);refine⟨by(rw[hr0];rfl),?_,?_⟩
  ·intro i hi;have hic:i<c.ags.length:=by omega
   have hy:((SP now ds rF i).map zK)[i]? =some (zK (MC (ds.getD i default) now)):=by
    rw[zX8];unfold SP;rw[aF _ _ _ _ hi];rfl
   have e1:(SP now ds rF (i+1)).map zK=((SP now ds rF i).map zK).set i (zK (rF i).d):=by
    unfold SP;rw[dX _ _ _ _ hi,zZ8]
   have e2:rpL ds.length rF (i+1)=(rpL ds.length rF i).set i (rpA (rF i)):=by
    unfold rpL;rw[dX _ _ _ _ hi]
   have hyr:(rpL ds.length rF i)[i]? =some (.s (.slice none 0 0)):=by
    unfold rpL;exact aF _ _ _ _ hi
   have hxl:=htl i;have hrll:=hrl i;have hel:=HY hen i;have hkl:=HZ hks i;have hel1:=hen i;have hkl1:=hks i;have hem:=zA gX (MH rF i);have hkm:=zA iA (ST rF i);have hem1:=zA gX (rF i).en;have hkm1:=zA iA (rF i).ks;have ks:=zB1 c i;have kd:=hr i hi;have ht:=zGl c hw i hic;rw[e1,e2,BC,BD,zYd,zYd];clear e1 e2 hr hI hb0 hr0 hbn;unfold drT tkT at kd
   change zO 94 [_,_,_,_] [] (.tup [_,rpA (rF i),_,_]) []at kd
   generalize MC (ds.getD i default) now=D1 at *;generalize (rF i).d=D2 at *;rw[show rpA (rF i)= .sl false ((rF i).R.map ZX)from Z]at *; generalize (rF i).R.map ZX=R2 at *;generalize (SP now ds rF i).map zK=X at *;generalize rpL ds.length rF i=Y at *;generalize (MH rF i).map gX=En1 at *;generalize (ST rF i).map iA=Ks1 at *;rw[show zD gX (rF i).en= .sl false ((rF i).en.map gX)from Z,show zD iA (rF i).ks= .sl false ((rF i).ks.map iA)from Z]at kd;unfold zD at kd;unfold zK wI at hy kd⊢;unfold zD9 at ks ht;unfold vL at ks kd;refine zY ks ?_;obtain⟨bs,hbs⟩:∃bs:Nat,qV c.ags i=(bs:Int):=⟨(qV c.ags i).toNat,by have:=eG hw i zB;omega⟩;obtain⟨N,hN⟩:∃N:Nat,(c.ags.getD i default).ses=(N:Int):=⟨(c.ags.getD i default).ses.toNat,by have:=hw.at (i:=i) zB;omega⟩
   have hbd:bs+N<=ins.length:=by
    have:=TZ hw (show i+1<=c.ags.length by omega) (zX7 _);have h2:qV c.ags (i+1)=qV c.ags i+(c.ags.getD i default).ses:=rfl;omega
   have hN2:=hw.at (i:=i) zB;have hL:JC c i=(List.range N).map λk=>[plA i k (bs+k)]:=by unfold JC;rw[hbs,hN];rfl
   rw[show owI c ins i=BS ins bs N by unfold owI;rw[hbs,hN];rfl]at kd;rw[hN]at hN2;have hil2:=zA kX ins;refine uY 12 0 1041 2 Z Z Z Z Z ?_
   refine vM hF ht Z [2,3,12,41,1011,1012,1013,1014,1041,1042,1043] [2,3,8,9,10,11,12,49,50] Z Z Z Z Z Z Z Z Z (λk ys h=>?_) (λk=>[(2,.box [zD vC c.js,zD vU c.ags,iA c.per,iA c.cap,iA c.hold,iA c.lock,bA false,iA now,.ref 1011 0 ds.length,.ref 1012 0 a2,.ref 1013 0 a3,.ref 1014 0 a4,zD vW vw]),(3,.box [zD kX ins]),(12,.box [.ref 1041 0 ((BS ins bs k).map kX).length]),(41,.arr 1 Y false),(1011,.arr 17 X false),(1012,.arr 5 A false),(1013,.arr 3 B false),(1014,.arr 1 C false),(1041,.arr 2 ((BS ins bs k).map kX) true),(1042,.arr 3 En1 true),(1043,.arr 1 Ks1 true)]) (λ_=>True)
    (T:=[(2,.ptr 2 0 0),(3,.ptr 3 0 0),(8,.ref 41 0 ds.length),(9,.ref 1042 0 En1.length),(10,.ref 1043 0 Ks1.length),(11,iA i),(12,.ptr 12 0 0),(49,iA ds.length),(50,iA i)]) Z trivial (λk ys y hys hI F1 h1 h2=>?_) (λhI=>?_)
   ·rw[hL,zX8,zYf]at h;obtain⟨x,_,rfl⟩:=h;rfl
   ·have hk:k<N:=by
     have:=(zYu.1 hys).1;rw[hL,zX5,zZr]at this;exact this
    rw[hL,zX8,zY5 hk]at hys;obtain rfl:=yAh hys;have hyi:=zM kX ins (bs+k) zB;have hol:((BS ins bs k).map kX).length=k:=by unfold BS;rw[zX5,zX5,zZr]
    rw[zL0,zYd];generalize (BS ins bs k).map kX=O at *;generalize ins.getD (bs+k) default=x at *;rw[show [x].map kX=[.agg [bA x.opn,zD wO x.its]]from Z];unfold kX at hyi;refine WW ?_;refine⟨rfl,λF2 g1 g2=>?_⟩;refine WW ?_;exact⟨rfl,trivial⟩
   ·rw[show(JC c i).length=N by rw[hL,zX5,zZr]];generalize BS ins bs N=O at*
    show uQ _ _ _ _ ⟨_,_⟩ _
    refine uS [2,3,12,41,1011,1012,1013,1014,1042,1043] [2,3,8,9,10,11,12,49,50] Z ?_
    (conv=>whnf)
    simp only[zYq,zX6];clear ks ht hL hN hN2;refine zY kd ?_;rfl
  ·rw[rpL,dY];refine WW ?_;refine zI [1011,1012,1013,1014] Z Z ?_ Z
   show AV.tup [.sl false (List.take ds.length (List.map (λk=>rpA (rF k)) (List.range ds.length))),.sl false (List.take ((MH rF ds.length).map gX).length ((MH rF ds.length).map gX)),.sl false (List.take ((ST rF ds.length).map iA).length ((ST rF ds.length).map iA))]=_
   rw[zYe (by rw[zX5,zZr];exact zX7 _),zX6,zX6];rfl
structure JI (j:Jn) (s:Sg) (v:Sv) (now:Int):Prop where
 c:CV j s.c
 n:v.en.length=j.ph.length
 e:∀e∈v.en,-1<=e/\e<=now
 g:0<=v.gr
def zL1 (g:Cf) (s:Sv) (l:List Cl) (now:Int) (h:0<=s.gr):0<=(jA g s l now).gr:=by
 unfold jA;split
 ·exact yAc _
 ·unfold dD;split
  ·exact yAc _
  ·exact h
theorem zX1 {j:Jn} (J:JV j) {s:Sg} {v:Sv} {now:Int} (n0:0<=now) (H:JI j s v now) (g:Cf) (l:List Cl) (k:Int):JI j (dvF g j s v l k now).1 (dvF g j s v l k now).2 now:=by
 refine⟨zVc J H.c g v l k now,?_,?_,?_⟩
 ·unfold dvF;split
  ·exact(SY _ _).trans H.n
  ·split
   ·exact(SY _ _).trans ((UE ..).trans H.n)
   ·dsimp only;unfold cR;split
    ·exact(UE ..).trans H.n
    ·exact(UE ..).trans H.n
 ·have hd:=zG0 g v l now n0 H.e;unfold dvF;split
  ·exact PZ _ _ n0 H.e
  ·split
   ·exact PZ _ _ n0 hd
   ·dsimp only;unfold cR;split
    ·exact hd
    ·exact hd
 ·have hd:=zL1 g v l now H.g;unfold dvF;split
  ·exact yAc _
  ·split
   ·exact yAc _
   ·dsimp only;unfold cR;split
    ·dsimp only;omega
    ·exact hd
theorem zL2:∀(l pre:List Lg),dF pre l=true->∀g∈l,IF g=true
 | [],_,_,g,hg=>by cases hg
 |x::l,pre,h,g,hg=>by
  unfold dF at h;simp only[zYg]at h
  rcases zZg.1 hg with rfl|hg
  ·exact h.1
  ·exact zL2 l _ h.2.2 g hg
def zL3 {P:Program} {st:St} {T1 T2 T3:Nat} {x y z:Operand} {k:IntKind} {m n l:Int} (hx:yM (zG st.tm) x= .s (.int k m)) (hy:yM (zG st.tm) y= .s (.int k n)) (hz:yM (zG st.tm) z= .s (.int k l)):wV P st (.call ⟨.builtin .min, #[x,y,z], #[T1,T2,T3]⟩) (.s (.int k (min (min m n) l))) [] [] []:=
 yO λoo X tm h w β a ho hg hr HH Ht=>by
  obtain⟨d0,o0,y0,p0,f0,g0⟩:=oo;dsimp only at ho;subst ho;have h1:=vV Ht hg (x:=x) kJ hx;have h2:=vV Ht hg (x:=y) kJ hy;have h3:=vV Ht hg (x:=z) kJ hz;refine⟨.int k (min (min m n) l),?_,.fz _ _ (.s _)⟩;have e1:(if n<m then n else m)=min m n:=by omega
  have e2:(if l<min m n then l else min m n)=min (min m n) l:=by omega
  simp[execOp,resolve,invoke,builtin,Builtin.min_,Builtin.min2,h1,h2,h3,e1,e2]
def zL4 {P:Program} {st:St} {op:Op} {v:AV} {d:List (Nat×xN)} {r nw:List Nat} (hs:wV P st op v d r nw) (hr:(yS d).all (r.contains ·)=true) (he:(yS d).map (zC st.h)=(yS d).map (zC d)):wV P st op v [] r nw:=
 ⟨λX tm h hg hh hn=>by
  have h1:=hs.run X tm h hg hh hn
  have e:over d h=over [] h:=funext λk=>by
   unfold over
   cases hk:zC d k with
   |none=>rfl
   |some e=>
    have hm:=uL hk;obtain⟨i,hi⟩:=yBx hm;have e1:=zY3 (·[i]?) he;have e2:zC st.h k=zC d k:=by simpa [hi]using e1
    have e3:=hh k (by have:=zYi.1 hr k hm;simpa using this)
    show some e=h k
    rw[e3,e2,hk]
  rwa [e]at h1⟩
def zL5 {ag j:Int} {x:Rq} {c:Cl} (h:c∈FD ag j x) (hx:RqO x) {now:Int} (n0:0<=now) (hs:∀g∈x.legs,g.sc<=now):(0<=c.k/\c.k<=3)/\(0<=c.si/\c.si<=now):=by
 unfold FD at h;split at h
 ·cases h
 ·split at h
  ·cases h
  ·rename_i h1;rw[zZd]at h;subst h;dsimp only;refine⟨⟨hx.c0,hx.c1⟩,?_⟩;by_cases hi:(SJ (λr:Lg=>r.jn==j) x.legs).toNat<x.legs.length
   ·have hm:=zX x.legs _ hi;have hl:=hx.lg;unfold vgF at hl;rw[zYg]at hl;have:=hs _ hm;have hv:=zL2 _ _ hl.2 _ hm;generalize x.legs.getD (SJ (λr:Lg=>r.jn==j) x.legs).toNat default=g at *;unfold IF at hv;rw[zX9]at hv;omega
   ·rw[zYc,zYx zB]
    show(0:Int)<=0/\(0:Int)<=now
    omega
def zL6 {c:Cf} {j:Int} {ds:List xI} (hI:∀d∈ds,qF c d) {now:Int} (n0:0<=now) (hs:∀d∈ds,GD now d.rq):∀x∈cA j ds,(0<=x.k/\x.k<=3)/\(0<=x.si/\x.si<=now):=λx hx=>by
 unfold cA at hx;obtain⟨y,hy,hx⟩:=yBi.1 hx;obtain⟨d,hd,rfl⟩:=zZn.1 hy;unfold bR at hx;obtain⟨y,hy,hx⟩:=yBi.1 hx;obtain⟨r,hr,rfl⟩:=zZn.1 hy;exact zL5 hx ((hI d hd).v.ok r hr) n0 (hs d hd r hr)
theorem KP (j:Int):∀l:List xI,(∀d∈l,d.rq.length<=4)->(cA j l).length<=4*l.length
 | [],_=>zX7 _
 |d::l,h=>by
  have h1:=ZU d.rg.num j d.rq;have h2:=KP j l (λx hx=>h x OU);have h3:=h d zW;have e:cA j (d::l)=bR d.rg.num j d.rq++cA j l:=rfl;rw[e,zX4,zYh];omega
def YR (c:Cf) (sg:List Sg) (sv:List Sv) (st:List Int) (ds:List xI) (now:Int) (k:Nat):Sg×Sv:=dvF c (c.js.getD k default) (sg.getD k default) (sv.getD k default) (cA (k:Int) ds) (st.getD k default) now
def MI (D:Nat->Sg×Sv) (l:List Sg) (i:Nat):List Sg:=YY (λk _=>(D k).1) l i
def MJ (D:Nat->Sg×Sv) (l:List Sv) (i:Nat):List Sv:=YY (λk _=>(D k).2) l i
def GA (l:List Int) (i:Nat):List Int:=YY (λ_ _=> -1) l i
def stW (js:List Jn) (D:Nat->Sg×Sv) (n i:Nat):List AV:=(List.range n).map λk=>if k<i then vW (LF (js.getD k default) (D k).1 (D k).2)else .agg [bA false,bA false,.s (.slice none 0 0),.s (.slice none 0 0)]
def stH (c:Cf) (now:Int) (ds:List xI) (v:AV) (sg:List Sg) (sv:List Sv) (st:List Int):List (Nat×xN):=
 [(2,.box [zD vC c.js,zD vU c.ags,iA c.per,iA c.cap,iA c.hold,iA c.lock,bA false,iA now,zD zK ds,.ref 1012 0 (sg.map vJ).length,.ref 1013 0 (sv.map vI).length,.ref 1014 0 (st.map iA).length,v]),(1012,.arr 5 (sg.map vJ) false),(1013,.arr 3 (sv.map vI) false),(1014,.arr 1 (st.map iA) false)]
theorem zL7 (c:Cf) (hv:BI c) (now:Int) (n0:0<=now) (n1:now<=1000000000) (ds:List xI) (hd4:ds.length<=4) (hI:∀d∈ds,qF c d) (hs:∀d∈ds,GD now d.rq) (sg:List Sg) (sv:List Sv) (st:List Int) (vw:List Vw)
  (hg:sg.length=c.js.length) (hsv:sv.length=c.js.length) (hst:st.length=c.js.length) (hj:∀k,k<c.js.length->JI (c.js.getD k default) (sg.getD k default) (sv.getD k default) now):
  zO 155 [.ptr 2 0 0] (stH c now ds (zD vW vw) sg sv st) (.tup [])
   (stH c now ds (.ref 1015 0 c.js.length) (MI (YR c sg sv st ds now) sg c.js.length) (MJ (YR c sg sv st ds now) sv c.js.length) (GA st c.js.length)++[(1015,.arr 4 (stW c.js (YR c sg sv st ds now) c.js.length c.js.length) false)]):=by
 have hjl:=zA vC c.js;have hgl:=zA vJ sg;have hvl:=zA vI sv;have htl:=zA iA st;have hj4:=hv.j;unfold stH;refine eM call155 λF hF=>?_
 (repeat' (first|refine uJ ?_|apply xL|apply wB|intro hc|(refine zE ?_;first|(refine zE ?_;refine zP (zL3 Z Z Z) Z ?_)|(refine eP ?_;refine bM 1015 tok Z Z Z Z Z Z Z Z Z Z Z Z Z zB zB Z Z Z ?_))|fail))
 rw[hjl,hgl,hvl,hg,hsv,yD5,yD5]
 (repeat' (first|refine uJ ?_|apply xL|apply wB|intro hc|(refine zE ?_;first|(refine eP ?_;refine bM 1015 tok Z Z Z Z Z Z Z Z Z Z Z Z Z zB zB Z Z Z ?_))|fail))
 have hw0:∀D,stW c.js D c.js.length 0=List.replicate c.js.length (.agg [bA false,bA false,.s (.slice none 0 0),.s (.slice none 0 0)]):=λD=>by
  unfold stW;apply zZf;intro j;rw[zX8,zZ0];by_cases hj:j<c.js.length
  ·rw[zY5 hj,zX3 hj];simp
  ·rw[zX2 hj,zYx xX];rfl
 have hC:=KP;have hG0:∀D,MI D sg 0=sg:=λD=>jU _ _
 have hV0:∀D,MJ D sv 0=sv:=λD=>jU _ _
 have hK0:GA st 0=st:=jU _ _;have hgn:∀D i,((MI D sg i).map vJ).length=c.js.length:=λD i=>by unfold MI;rw[zX5,vE,hg]
 have hvn:∀D i,((MJ D sv i).map vI).length=c.js.length:=λD i=>by unfold MJ;rw[zX5,vE,hsv]
 have hkn:∀i,((GA st i).map iA).length=c.js.length:=λi=>by unfold GA;rw[zX5,vE,hst]
 have hwn:∀D i,(stW c.js D c.js.length i).length=c.js.length:=λD i=>by unfold stW;rw[zX5,zZr]
 rw[htl,hst,hgn,hvn,hkn];refine zS (c.js.length) [1012,1013,1014,1015,2] [2] [0,28] [29,0,28] Z (λi T U=>⟨(29,iA i)::T,(1012,.arr 5 ((MI (YR c sg sv st ds now) sg i).map vJ) false)::(1013,.arr 3 ((MJ (YR c sg sv st ds now) sv i).map vI) false)::(1014,.arr 1 ((GA st i).map iA) false)::(1015,.arr 4 (stW c.js (YR c sg sv st ds now) c.js.length i) false)::U⟩) ?_;(conv=>whnf);refine⟨by(rw[hG0,hV0,hK0,hw0];rfl),?_,?_⟩
 ·intro i hi;have hyj:=zM vC c.js i hi;have hyg:((MI (YR c sg sv st ds now) sg i).map vJ)[i]? =some (vJ (sg.getD i default)):=by rw[zX8];unfold MI;rw[qD,zX3 zB,zX2 (yB7 i)];rfl
  have hyv:((MJ (YR c sg sv st ds now) sv i).map vI)[i]? =some (vI (sv.getD i default)):=by rw[zX8];unfold MJ;rw[qD,zX3 zB,zX2 (yB7 i)];rfl
  have hyk:((GA st i).map iA)[i]? =some (iA (st.getD i default)):=by rw[zX8];unfold GA;rw[qD,zX3 zB,zX2 (yB7 i)];rfl
  have hyw:(stW c.js (YR c sg sv st ds now) c.js.length i)[i]? =some (.agg [bA false,bA false,.s (.slice none 0 0),.s (.slice none 0 0)]):=aF _ _ _ _ hi;have eg:(MI (YR c sg sv st ds now) sg (i+1)).map vJ=((MI (YR c sg sv st ds now) sg i).map vJ).set i (vJ (YR c sg sv st ds now i).1):=by unfold MI;rw[qP _ _ _ _ zB]
  have ev:(MJ (YR c sg sv st ds now) sv (i+1)).map vI=((MJ (YR c sg sv st ds now) sv i).map vI).set i (vI (YR c sg sv st ds now i).2):=by unfold MJ;rw[qP _ _ _ _ zB]
  have ek:(GA st (i+1)).map iA=((GA st i).map iA).set i (iA (-1)):=by unfold GA;rw[qP _ _ _ _ zB]
  have ew:stW c.js (YR c sg sv st ds now) c.js.length (i+1)=(stW c.js (YR c sg sv st ds now) c.js.length i).set i (vW (LF (c.js.getD i default) (YR c sg sv st ds now i).1 (YR c sg sv st ds now i).2)):=dX _ _ _ _ hi;have J:=hv.jv _ (zX c.js i hi);have H:=hj i hi;have cl:(cA (i:Int) ds).length<=4*ds.length:=hC i ds λd hd=>(hI d hd).v.n4
  have cm:=zL6 (j:=(i:Int)) hI n0 hs;have hp:=hv.p;have hcp:=hv.cp;have hJn:=J.n;have hHn:=H.n;have HD:DcB c (sv.getD i default) (cA (i:Int) ds) now:=⟨hp.1,zB,zB,n0,n1,H.e,λx hx=>(cm x hx).1,λx hx=>(cm x hx).2,zB,zB⟩
  have kd:zO 190 [vL c,vC (c.js.getD i default),vJ (sg.getD i default),vI (sv.getD i default),zD cT (cA (i:Int) ds),iA (st.getD i default),iA now] [] (.tup [vJ (YR c sg sv st ds now i).1,vI (YR c sg sv st ds now i).2]) []:=
   zMy c _ J _ H.c _ _ _ now HD (by have:=zL1 c (sv.getD i default) (cA (i:Int) ds) now H.g;omega)
  have ko:=zGj (c.js.getD i default) J (YR c sg sv st ds now i).1 (zVc J H.c _ _ _ _ _) (YR c sg sv st ds now i).2;have kc:=zD8 c false now ds i zB (λd hd=>(hI d hd).bd) ((MI (YR c sg sv st ds now) sg i).map vJ) ((MJ (YR c sg sv st ds now) sv i).map vI) (((GA st i).map iA).set i (iA (-1))) (stW c.js (YR c sg sv st ds now) c.js.length i) c.js.length c.js.length c.js.length c.js.length;have hgl':=hgn (YR c sg sv st ds now) i;have hvl':=hvn (YR c sg sv st ds now) i;have hkl':=hkn i;have hwl':=hwn (YR c sg sv st ds now) i;rw[eg,ev,ek,ew];clear eg ev ek ew hG0 hV0 hK0 hw0 HD cm hC hgn hvn hkn hwn hj H J;generalize (MI (YR c sg sv st ds now) sg i).map vJ=X at *;generalize (MJ (YR c sg sv st ds now) sv i).map vI=Y at *;generalize (GA st i).map iA=Z' at *;generalize stW c.js (YR c sg sv st ds now) c.js.length i=W at *;generalize YR c sg sv st ds now i=p at *;generalize LF (c.js.getD i default) p.1 p.2=w at *;generalize cA (i:Int) ds=l at *;generalize sg.getD i default=s at *;generalize sv.getD i default=v at *;generalize st.getD i default=k at *;generalize c.js.getD i default=j at *;have hx1:(X.set i (vJ p.1))[i]? =some (vJ p.1):=zZu zB;have hx2:(Y.set i (vI p.2))[i]? =some (vI p.2):=zZu zB
  (have zc1:=kd;have zc2:=ko;(repeat' (first|refine uJ ?_|apply xL|apply wB|intro hc|(refine zE ?_;first|(refine vP 86 ?_;refine zP (zL4 (zH kc Z Z Z Z Z) Z Z) Z ?_))|fail))<;>clear zc1 zc2)
  rfl
 ·(refine WW ?_)
  exact jT [2,1012,1013,1014,1015] Z Z Z Z
structure CyI (y:Cy):Prop where
 v:BI y.c
 rf:y.rf=false
 n0:0<=y.now
 dl:y.ds.length=y.c.ags.length
 di:∀d∈y.ds,qF y.c d
 dg:∀a,a<y.ds.length->(y.ds.getD a default).rg.ag=y.c.ags.getD a default
 sc:∀d∈y.ds,GD y.now d.rq
 gl:y.sg.length=y.c.js.length
 sl:y.sv.length=y.c.js.length
 tl:y.st.length=y.c.js.length
 wl:y.vw.length=y.c.js.length
 wb:∀w∈y.vw,BL w
 j:∀k,k<y.c.js.length->JI (y.c.js.getD k default) (y.sg.getD k default) (y.sv.getD k default) y.now
def SA {α:Type} [Inhabited α] {l:List α} {x:α} (h:x∈l):∃i,i<l.length/\l.getD i default=x:=by
 obtain⟨i,hi,e⟩:=yBy.1 h;exact⟨i,hi,by rw[zYc,zYk hi];exact e⟩
theorem CyI.b {y:Cy} (h:CyI y):CyB y:=by
 have ha:=h.v.a;have hj:=h.v.j;have h1:=h.dl;have h2:=h.gl;have h3:=h.sl;have h4:=h.tl;have h5:=h.wl;refine⟨zB,λd hd=>(h.di d hd).bd,zB,λs hs=>?_,zB,λs hs=>?_,zB,zB,λw hw=>?_⟩
 ·obtain⟨i,hi,rfl⟩:=SA hs;have J:=h.v.jv _ (zX y.c.js i zB);have C:=(h.j i zB).c;have h6:=J.n;have h7:=C.n;have h8:=C.m;omega
 ·obtain⟨i,hi,rfl⟩:=SA hs;have J:=h.v.jv _ (zX y.c.js i zB);have h6:=J.n;have h7:=(h.j i zB).n;omega
 ·have:=h.wb w hw;have h6:=this.n;have h7:=this.m;omega
def NY (c:Cf) (sg:List Sg) (ks:List Int):List Sg:=ks.foldl (λs x=>s.set x.toNat (srF (c.js.getD x.toNat default) (s.getD x.toNat default))) sg
def zL8 (c:Cf) (sg:List Sg) (ks:List Int) (x:Int):NY c sg (ks++[x])=(NY c sg ks).set x.toNat (srF (c.js.getD x.toNat default) ((NY c sg ks).getD x.toNat default)):=by
 unfold NY;rw[yC3];rfl
def dZ {α:Type} [Inhabited α] (l:List α) (i j:Nat) (x:α) (hj:j<l.length):(l.set i x).getD j default=if i=j then x else l.getD j default:=by
 rw[zYc,yAb,zYc];by_cases h:i=j
 ·subst h;rw[zX3 Z,zX3 hj,zX3 Z];rfl
 ·rw[zX2 h,zX2 h]
theorem zDv {c:Cf} (hv:BI c) {sv:List Sv} {now:Int}:∀(ks:List Int) (sg:List Sg),sg.length=c.js.length->(∀k,k<c.js.length->JI (c.js.getD k default) (sg.getD k default) (sv.getD k default) now)->(NY c sg ks).length=c.js.length/\∀k,k<c.js.length->JI (c.js.getD k default) ((NY c sg ks).getD k default) (sv.getD k default) now
 | [],sg,hl,h=>⟨hl,h⟩
 |x::ks,sg,hl,h=>by
  have e:NY c sg (x::ks)=NY c (sg.set x.toNat (srF (c.js.getD x.toNat default) (sg.getD x.toNat default))) ks:=rfl;rw[e];refine zDv hv ks _ (by rw[zZx];exact hl) λk hk=>?_
  rw[dZ _ _ _ _ zB];split
  ·rename_i hx;rw[hx];have H:=h k hk;exact⟨zW7 (hv.jv _ (zX c.js k hk)) H.c,H.n,H.e,H.g⟩
  ·exact h k hk
def zP9 (D:Nat->Sg×Sv) (l:List Sg) (n k:Nat) (h1:k<n) (h2:k<l.length):(MI D l n).getD k default=(D k).1:=by
 unfold MI;rw[zYc,qD,zX3 h2,zX3 h1];rfl
def zQa (D:Nat->Sg×Sv) (l:List Sv) (n k:Nat) (h1:k<n) (h2:k<l.length):(MJ D l n).getD k default=(D k).2:=by
 unfold MJ;rw[zYc,qD,zX3 h2,zX3 h1];rfl
def BE (js:List Jn) (D:Nat->Sg×Sv) (n:Nat):List Vw:=(List.range n).map λk=>LF (js.getD k default) (D k).1 (D k).2
def zQb (js:List Jn) (D:Nat->Sg×Sv) (n:Nat):stW js D n n=(BE js D n).map vW:=by
 unfold stW BE;rw[dY,yCl];rfl
def BF (y:Cy) (R:Nat->DR):Nat->Sg×Sv:=YR y.c (NY y.c y.sg (ST R y.ds.length)) y.sv y.st (SP (y.now+1) y.ds R y.ds.length) (y.now+1)
def dB (y:Cy) (R:Nat->DR):Cy:=
 ⟨y.c,false,y.now+1,SP (y.now+1) y.ds R y.ds.length,MI (BF y R) (NY y.c y.sg (ST R y.ds.length)) y.c.js.length,MJ (BF y R) y.sv y.c.js.length,GA y.st y.c.js.length,BE y.c.js (BF y R) y.c.js.length⟩
def TkR (y:Cy) (ins:List In) (R:Nat->DR):Prop:=∀a,a<y.ds.length->DtP y.c (y.now+1) (MC (y.ds.getD a default) (y.now+1)) (owI y.c ins a) (R a)/\zO 94 [vL y.c,zK (MC (y.ds.getD a default) (y.now+1)),zD kX (owI y.c ins a),iA (y.now+1)] [] (drT (R a)) []
def ZC {now:Int} {ds:List xI} {R:Nat->DR} {a:Nat} (ha:a<ds.length):(SP now ds R ds.length).getD a default=(R a).d:=by
 unfold SP;rw[dY,zYc,zX8,zY5 ha];rfl
def dS (now:Int) (ds:List xI) (R:Nat->DR):(SP now ds R ds.length).length=ds.length:=by simp[SP]
def SD {now:Int} {ds:List xI} {R:Nat->DR} {d:xI} (h:d∈SP now ds R ds.length):∃a,a<ds.length/\d=(R a).d:=by
 obtain⟨i,hi,rfl⟩:=SA h;rw[dS]at hi;exact⟨i,hi,ZC hi⟩
def zL9 (l:List Rq) (now:Int):WQ l (zIt l now):=WQ.filter _ _
noncomputable def dtR (y:Cy) (ins:List In) (a:Nat):DR:=WC y.c (MC (y.ds.getD a default) (y.now+1)) (owI y.c ins a) (y.now+1)
def zW3 {y:Cy} (h:CyI y) (hn:y.now<1000000000) {ins:List In} (hil:(ins.length:Int)=qV y.c.ags y.c.ags.length) (hin:∀i∈ins,InS i):TkR y ins (dtR y ins):=λa ha=>by
 have hI:=h.di _ (zX y.ds a ha);obtain⟨b1,b2,_⟩:=zQp hI (y.now+1);have hau:=hI.au;rw[h.dg a ha]at hau;have hs:=(h.v.av _ (zX y.c.ags a (by have:=h.dl;omega))).e;have n0:=h.n0
 exact zD1 y.c _ b1 (owI y.c ins a) (by unfold owI BS;rw[zX5,zZr];show _=(y.ds.getD a default).au.length;omega) (λi hi=>by
  unfold owI BS at hi;obtain⟨k,_,rfl⟩:=zZn.1 hi;by_cases hk:(qV y.c.ags a).toNat+k<ins.length
  ·exact hin _ (zX ins _ hk)
  ·rw[zYc,zYx zB]
   exact⟨zYl _,λx hx=>by cases hx⟩) (y.now+1) zB zB
def zRe {y:Cy} (h:CyI y) {ins:List In} {R:Nat->DR} (hR:TkR y ins R):CyI (dB y R):=by
 have n0:=h.n0;have hg:=zDv h.v (sv:=y.sv) (now:=y.now) (ST R y.ds.length) y.sg h.gl h.j
 have hD:∀k,k<y.c.js.length->JI (y.c.js.getD k default) (BF y R k).1 (BF y R k).2 (y.now+1):=λk hk=>by
  have J:=h.v.jv _ (zX y.c.js k hk);have H:=hg.2 k hk;exact zX1 J zB ⟨H.c,H.n,λe he=>by have:=H.e e he;omega,H.g⟩ _ _ _
 have hsl:=h.sl;refine⟨h.v,rfl,by show 0<=y.now+1;omega,(dS ..).trans h.dl,λd hd=>?_,λa ha=>?_,λd hd=>?_,?_,?_,?_,?_,λw hw=>?_,λk hk=>?_⟩
 ·obtain⟨a,ha,rfl⟩:=SD hd;exact(hR a ha).1.i
 ·have ha':a<y.ds.length:=by rw[<-dS (y.now+1) y.ds R];exact ha
  show((SP (y.now+1) y.ds R y.ds.length).getD a default).rg.ag=_
  rw[ZC ha',(hR a ha').1.ag];exact h.dg a ha'
 ·obtain⟨a,ha,rfl⟩:=SD hd;refine(hR a ha).1.sc ?_;exact GD.of zB ((h.sc _ (zX y.ds a ha)).mono zB) (zL9 _ _)
 ·show(MI _ _ _).length=_
  unfold MI;rw[vE];exact hg.1
 ·show(MJ _ _ _).length=_
  unfold MJ;rw[vE];exact h.sl
 ·show(GA _ _).length=_
  unfold GA;rw[vE];exact h.tl
 ·show(BE _ _ _).length=_
  simp[BE,dB]
 ·unfold dB BE at hw;obtain⟨k,hk,rfl⟩:=zZn.1 hw;exact zQe _ (h.v.jv _ (zX y.c.js k (zYs.1 hk))) _ _
 ·show JI _ ((MI (BF y R) (NY y.c y.sg (ST R y.ds.length)) y.c.js.length).getD k default) ((MJ (BF y R) y.sv y.c.js.length).getD k default) _
  have hk':k<y.c.js.length:=hk;rw[zP9 _ _ _ _ hk' (by rw[hg.1];exact hk'),zQa _ _ _ _ hk' zB];exact hD k hk
def GB (y:Cy) (ins:List In) (R:Nat->DR) (n a k:Nat):List Ms:=if(ins.getD ((qV y.c.ags a).toNat+k) default).opn=true then tlF (y.ds.getD a default) y.vw y.now k (R a).R (MH R n)else []
def BT (T:Nat->Nat->List Ms) (a k:Nat):List (List Ms):=(List.range k).map (T a)
def GC (c:Cf) (T:Nat->Nat->List Ms) (n:Nat):List (List Ms):=((List.range n).map λa=>BT T a (c.ags.getD a default).ses.toNat).flatten
def tdA (T:List (List Ms)) (f:Ms):AV:= .agg [zD ZX T,zD yF [f]]
def zMa (T:Nat->Nat->List Ms) (a k:Nat):BT T a (k+1)=BT T a k++[T a k]:=by simp[BT,yAw]
def NZ (c:Cf) (T:Nat->Nat->List Ms) (n:Nat):GC c T (n+1)=GC c T n++BT T n (c.ags.getD n default).ses.toNat:=by simp[GC,yAw]
theorem SE {c:Cf} (hw:AD c.ags) (T:Nat->Nat->List Ms):∀n,n<=c.ags.length->((GC c T n).length:Int)=qV c.ags n
 |0,_=>rfl
 |n+1,hn=>by
  have ih:=SE hw T n zB;have:=hw.at (i:=n) zB;rw[NZ,zX4]
  show _=qV c.ags n+(c.ags.getD n default).ses
  have:(BT T n (c.ags.getD n default).ses.toNat).length=(c.ags.getD n default).ses.toNat:=by simp[BT]
  omega
theorem SF {c:Cf} (hw:AD c.ags) (T:Nat->Nat->List Ms):∀n,n<=c.ags.length->∀s,s<(GC c T n).length->∃a k:Nat,a<n/\(k:Int)<(c.ags.getD a default).ses/\s=(qV c.ags a).toNat+k/\(GC c T n).getD s []=T a k
 |0,_,s,hs=>by cases hs
 | n+1,hn,s,hs=>by
  have hl:=SE hw T n zB;rw[NZ]at hs⊢;by_cases h:s<(GC c T n).length
  ·obtain⟨a,k,h1,h2,h3,h4⟩:=SF hw T n zB s h;refine⟨a,k,zB,h2,h3,?_⟩;rw[zYc,zY0 h,<-zYc];exact h4
  ·rw[zX4]at hs;have hp:(BT T n (c.ags.getD n default).ses.toNat).length=(c.ags.getD n default).ses.toNat:=by simp[BT]
   refine⟨n,s-(GC c T n).length,zB,zB,zB,?_⟩;rw[zYc,zYt zB];unfold BT;rw[zX8,zY5 zB];rfl
theorem xP.frz {P:Program} {f:Nat} {args:List AV} {r:AV} {h1:List (Nat×xN)} {r':AV} {h1':List (Nat×xN)} (h:xP P f args [] r h1) (K:List Nat) (hr:VE (wQ K (zC h1) r)=r') (hh:vD K (zC h1)=h1') (hnd:uG h1'=true):xP P f args [] r' h1':=
 ⟨h.able,λk=>qI hnd,λX w β cargs hc H ha=>(h.sim X w β cargs hc H ha).mono λe w' ⟨c,β',he,G,hv⟩=>by
  obtain⟨H3,hv3⟩:=G.hok.restr K;refine⟨c,λk=>if k∈K then β' k else [],he,⟨G.size,G.keep,λk b n hm=>?_,G.bs,λk e he=>by simp[zC]at he,by rw[<-hh];exact H3,G.os,G.tape,G.output⟩,?_⟩
  ·split at hm
   ·exact G.own k b n hm
   ·simp at hm
  ·rw[<-hh,<-hr]
   exact(hv3 _ _ hv).wk⟩
end Av
end Go.Proofs.YteajjdidebfcjaaGreat
