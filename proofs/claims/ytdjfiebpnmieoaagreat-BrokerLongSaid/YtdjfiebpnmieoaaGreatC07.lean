/- Part 7. -/
import Derived.Test.YtdjfiebpnmieoaaGreatC06
namespace Go.Proofs.YtdjfiebpnmieoaaGreat.Av
open Tryz
set_option linter.all false
set_option maxRecDepth 4000
set_option maxHeartbeats 2000000
open List renaming length->ln,getD->nm
open Inhabited renaming default->dd
variable {f4:Int}{w:List (Int×Int)}{gs:List Lg}{l post ga:List Rq}{i:Nat}{x:Rq}
def Jr (l:List Rq) (id:Int):Rq:=(l.find? λx=>x.id==id).getD ⟨0,0,0,0,[]⟩
def Ff {id:Int} (h:l=ga++x::post) (u:∀y∈ga,y.id≠id) (hx:x.id=id):Jr l id=x/\jF l id=true:=by grind [Jr,jF]
def Hm {id:Int} (u:∀y∈l,y.id≠id):Jr l id=⟨0,0,0,0,[]⟩/\jF l id=false:=by grind [Jr,jF,List.find?_eq_none]
def gu (l:List Rq) (id:Int) (G:ln l<=1000) (hb:∀r∈l,ln r.legs<=1000):zO 375 [zD zX l,iA id] [] (.tup [zX (Jr l id),bA (jF l id)]) []:=by
 have hl:=zA zX l;refine eM call375 λF hF=>?_
 refine WW ?_;refine qC (l) [4] [] [1,4,8,9] [10,1,4,8,9] Z (λi ga T U E=>(∀y∈ga,y.id≠id)/\E=⟨(10,iA i)::T,(4,.box [.s (.int .i64 0),.s (.int .i64 0),.s (.int .i64 0),.s (.int .i64 0),.s (.slice none 0 0)])::U⟩) (Lp ?_ ?_ ?_)
 .exact⟨by simp,rfl⟩
 .rintro i ga x post st hx hi ⟨hp,rfl⟩;have u:=yI zX hx hi;have C:=zV hx hi;by_cases A:x.id=id
  .obtain⟨e1,z⟩:=Ff hx hp A;have c:zO 170 [.sl false [.agg [iA x.id,iA x.vh,iA x.cls,iA x.til,zD yN x.legs]]] [] (.sl false [.agg [iA x.id,iA x.vh,iA x.cls,iA x.til,zD yN x.legs]]) []:=dQ [x] zW (λr B=>by rw[zBf]at B;subst B;exact hb _ (yV hx));rw[e1,z];clear hx e1;exact mx c
  .clear hx;refine WW ?_;exact⟨λy u=>by simp only[zA5,zBf]at u;rcases u with u|rfl;exact hp y u;exact A,rfl⟩
 .rintro st ⟨hp,rfl⟩;obtain⟨e1,z⟩:=Hm hp;rw[e1,z];exact lc
theorem ui (l:List Rq) (q id:Int) (v:Vh) (u:Int) (x:List Lg) (f4:Int) (hv:bW l) (hq:(ln l:Int)<=q) (v0:0<=v.id) (v1:v.id<=4294967295) (w0:0<=v.cls) (w1:v.cls<=3) (n0:0<=f4) (n1:f4<=1073741824) (a2:ln x<=1000):
  zO 333 [zD zX l,iA q,iA id,vE v,iA u,zD yN x,iA f4] [] (.tup [zD zX (if NI l q id u x=0 then eE l (fU id v u x f4)else []),iA (NI l q id u x)]) []:=by
 have h4:=hv.n4;have hl:=zA zX l;have I:=VS l q hv hq;have B:=wS v.id 0 4294967295;have C:=wS v.cls 0 3;have E:=wS f4 0 1073741824;have z:=wS id 0 4294967295;have G:=wS u 1 600;have L:=EP x zB;have M:=gu l id zB (λr A=>by have:=hv.lg3 A;omega);rw[zAd ⟨v0,v1⟩]at B;rw[zAd ⟨w0,w1⟩]at C;rw[zAd ⟨n0,n1⟩]at E;by_cases S:0<=id/\id<=4294967295
 case neg=>
  rw[zAc S]at z;have e:NI l q id u x=8:=Os λh=>S ⟨h.1,h.2.1⟩
  rw[e,Of yX];refine eM call333 λF hF=>?_
  exact ld (KO I B C E z)
 rw[zAd S]at z;by_cases V:1<=u/\u<=600
 case neg=>
  rw[zAc V]at G;have e:NI l q id u x=8:=Os λh=>V ⟨h.2.2.1,h.2.2.2.1⟩
  rw[e,Of yX];refine eM call333 λF hF=>?_
  exact ld (Ld I B C E z G)
 rw[zAd V]at G
 cases R:sa x with
 |false=>
  rw[R]at L;have e:NI l q id u x=8:=Os λh=>zAp (R.symm.trans h.2.2.2.2)
  rw[e,Of yX];refine eM call333 λF hF=>?_
  exact ld (Ox I B C E z G L)
 |true=>
 rw[R]at L
 have O:NI l q id u x=if jF l id=true then 11 else if q<=ln l\/4<=(ln l:Int)then 14 else 0:=Of λh=>h ⟨S.1,S.2,V.1,V.2,R⟩
 have a1:=VR R;clear R;generalize Jr l id=fq at*
 cases hh:jF l id with
 |true=>
  rw[hh]at M;have e:NI l q id u x=11:=by rw[O,Os hh]
  rw[e,Of yX];refine eM call333 λF hF=>?_
  exact ld (Nx I B C E z G L M)
 |false=>
 rw[hh]at M;rw[Of Sa]at O;by_cases g4:q<=ln l\/4<=(ln l:Int)
 case pos=>
  rw[Os g4]at O;rw[O,Of yX];by_cases g5:q<=ln l
  ·(refine eM call333 λF hF=>?_)
   exact ld (Nx I B C E z G L M)
  .have g6:4<=(ln l:Int):=g4.resolve_left g5;refine eM call333 λF hF=>?_
   exact ld (Nx I B C E z G L M)
 rw[Of g4]at O;rw[O,Os Z];have hk:=Rd l id;have Y:=λi h=>Pd (l:=l) (id:=id) (i:=i) h
 have ac:=Od (l:=l) (id:=id)
 have W:((l.take (VQ l id:Int).toNat).map zX++[zX (fU id v u x f4)])++(l.drop (VQ l id:Int).toNat).map zX=(eE l (fU id v u x f4)).map zX:=by
  rw[zAx];unfold eE fU;rw[zAf,zBk,zA0];rfl
 have d1:=dQ (eE l (fU id v u x f4)) (by unfold eE;rw[zAh,zAm,zAw,zA8];omega) (λr A=>by
  unfold eE at A;rw[zA5,zBv]at A
  rcases A with A|rfl|A
  .have:=hv.lg3 (zB5 A);omega
  .show (ln x)<=1000;omega
  .have:=hv.lg3 (zBj A);omega)
 have ap:∀y,((l.take (VQ l id:Int).toNat).map zX)[0]? =some y->ln y.cells=5:=zZ _ _ (λ_=>rfl);have az:∀y,((l.drop (VQ l id:Int).toNat).map zX)[0]? =some y->ln y.cells=5:=zZ _ _ (λ_=>rfl);have ax:((l.take (VQ l id:Int).toNat).map zX).length=VQ l id:=by rw[zAa,zAw];omega
 have ar:((l.drop (VQ l id:Int).toNat).map zX).length=ln l-VQ l id:=by rw[zAa,zA8];omega
 clear hv;have hR:zD zX (eE l (fU id v u x f4))=AV.sl false ((eE l (fU id v u x f4)).map zX):=rfl;rw[hR]at d1⊢;rw[<-W]at d1⊢;clear hR W;refine eM call333 λF hF=>?_
 refine yJ (Nx I B C E z G L M) ?_;refine zN (VQ l id) [10] [10] [0,2,4,5,6,10] [18,0,2,4,5,6,10] Z (λi T U=>⟨(18,iA i)::T,U⟩) (Lq ?_ ?_)
 .intro i hi;have hy:=zJ zX l i zB;have av:=Y i hi;generalize l.getD i dd=r at *;refine WW ?_;rfl
 .clear Y;by_cases ag:VQ l id<ln l
  case' pos=>
   have hy:=zJ zX l (VQ l id) ag;have au:=ac ag;generalize l.getD (VQ l id) dd=r at*
  all_goals clear ac
  all_goals generalize VQ l id=k at*
  all_goals (repeat' (first|refine WS ?_|refine SG (I2 (λhc=>?_) λhc=>?_)|refine SG λhc=>?_|(apply zG;first|(apply yG;refine eG tok Z Z Z Z Z Z ap Z Z Z zB Z Z Z ?_)|refine SM ?_)|(first|refine xg 11 14 Z Z ?_|first|refine SR ?_|refine SK (I2 (λhc=>?_) λhc=>?_)|refine SK λhc=>?_|fail)|fail))
  all_goals refine mn UH ?_
  all_goals (have gd:=d1;have kh:=(⟨⟩:Z1 170 [] [105]);refine WW ?_;clear gd kh)
  all_goals exact zI
def wI (r:Rq) (k:Nat):AV:= .agg [iA r.id,iA r.vh,iA r.cls,iA r.til,.ref k 0 (r.legs.map yN).length]
def qT (r:Rq):wB:= .arr 5 (r.legs.map yN) false
def IT (l:List Lg) (h1:1<=ln l) (hl:ln l<=1000):zO 165 [zD yN l] [] (.ref 1101 0 (l.map yN).length) [(1101,.arr 5 (l.map yN) false)]:=by
 have u:=zA yN l;refine eM call165 λF hF=>?_
 refine xI 0 Z (λcap hx=>?_) ?_
 .have:l=[]:=by simpa using hx
  subst this;simp at h1
 ·(repeat' (first|refine WV ?_|refine SG (I2 (λhc=>?_) λhc=>?_)|refine SG λhc=>?_|(apply zG;first|(apply yR;refine qB (nw:=[1101]) (yT tok 1101 (xs:=[]) Z Z Z Z Z Z Z Z Z) Z Z Z ?_))|refine SB ?_|(first|apply xK|apply xF|refine vQ Z ?_|refine yM Z ?_|refine yB Z ?_|refine xU Z (λhc=>?_) λhc=>?_|apply xB|apply xG|apply xJ|apply xE)|fail))
  exact zP [1101] Z Z Z Z
def fY (r:Rq) (h1:1<=ln r.legs) (hl:ln r.legs<=1000):zO 254 [zX r] [] (wI r 1101) [(1101,qT r)]:=by
 have c:=IT r.legs h1 hl;have u:=zA yN r.legs;refine eM call254 λF hF=>?_
 refine zQ c ?_;exact zP [1101] Z Z Z Z
def IU (l:List Lg) (h1:1<=ln l) (hl:ln l<=1000):zO 165 [zD yN l] [] (.ref 1102 0 (l.map yN).length) [(1102,.arr 5 (l.map yN) false)]:=by
 have u:=zA yN l;refine eM call165 λF hF=>?_
 refine xI 0 Z (λcap hx=>?_) ?_
 .have:l=[]:=by simpa using hx
  subst this;simp at h1
 ·(repeat' (first|refine WV ?_|refine SG (I2 (λhc=>?_) λhc=>?_)|refine SG λhc=>?_|(apply zG;first|(apply yR;refine qB (nw:=[1102]) (yT tok 1102 (xs:=[]) Z Z Z Z Z Z Z Z Z) Z Z Z ?_))|refine SB ?_|(first|apply xK|apply xF|refine vQ Z ?_|refine yM Z ?_|refine yB Z ?_|refine xU Z (λhc=>?_) λhc=>?_|apply xB|apply xG|apply xJ|apply xE)|fail))
  exact zP [1102] Z Z Z Z
def ZX (r:Rq) (h1:1<=ln r.legs) (hl:ln r.legs<=1000):zO 254 [zX r] [] (wI r 1102) [(1102,qT r)]:=by
 have c:=IU r.legs h1 hl;have u:=zA yN r.legs;refine eM call254 λF hF=>?_
 refine zQ c ?_;exact zP [1102] Z Z Z Z
def IV (l:List Lg) (h1:1<=ln l) (hl:ln l<=1000):zO 165 [zD yN l] [] (.ref 1103 0 (l.map yN).length) [(1103,.arr 5 (l.map yN) false)]:=by
 have u:=zA yN l;refine eM call165 λF hF=>?_
 refine xI 0 Z (λcap hx=>?_) ?_
 .have:l=[]:=by simpa using hx
  subst this;simp at h1
 ·(repeat' (first|refine WV ?_|refine SG (I2 (λhc=>?_) λhc=>?_)|refine SG λhc=>?_|(apply zG;first|(apply yR;refine qB (nw:=[1103]) (yT tok 1103 (xs:=[]) Z Z Z Z Z Z Z Z Z) Z Z Z ?_))|refine SB ?_|(first|apply xK|apply xF|refine vQ Z ?_|refine yM Z ?_|refine yB Z ?_|refine xU Z (λhc=>?_) λhc=>?_|apply xB|apply xG|apply xJ|apply xE)|fail))
  exact zP [1103] Z Z Z Z
def RU (r:Rq) (h1:1<=ln r.legs) (hl:ln r.legs<=1000):zO 254 [zX r] [] (wI r 1103) [(1103,qT r)]:=by
 have c:=IV r.legs h1 hl;have u:=zA yN r.legs;refine eM call254 λF hF=>?_
 refine zQ c ?_;exact zP [1103] Z Z Z Z
def IW (l:List Lg) (h1:1<=ln l) (hl:ln l<=1000):zO 165 [zD yN l] [] (.ref 1104 0 (l.map yN).length) [(1104,.arr 5 (l.map yN) false)]:=by
 have u:=zA yN l;refine eM call165 λF hF=>?_
 refine xI 0 Z (λcap hx=>?_) ?_
 .have:l=[]:=by simpa using hx
  subst this;simp at h1
 ·(repeat' (first|refine WV ?_|refine SG (I2 (λhc=>?_) λhc=>?_)|refine SG λhc=>?_|(apply zG;first|(apply yR;refine qB (nw:=[1104]) (yT tok 1104 (xs:=[]) Z Z Z Z Z Z Z Z Z) Z Z Z ?_))|refine SB ?_|(first|apply xK|apply xF|refine vQ Z ?_|refine yM Z ?_|refine yB Z ?_|refine xU Z (λhc=>?_) λhc=>?_|apply xB|apply xG|apply xJ|apply xE)|fail))
  exact zP [1104] Z Z Z Z
def EK (r:Rq) (h1:1<=ln r.legs) (hl:ln r.legs<=1000):zO 254 [zX r] [] (wI r 1104) [(1104,qT r)]:=by
 have c:=IW r.legs h1 hl;have u:=zA yN r.legs;refine eM call254 λF hF=>?_
 refine zQ c ?_;exact zP [1104] Z Z Z Z
def fu (a:Rq) (C:1<=ln a.legs) (B:ln a.legs<=1000):zO 216 [zD zX [a],.fn 262 []] [] (.ref 1001 0 1) [(1001,.arr 5 [wI a 1101] ⟨false,true⟩),(1101,qT a)]:=by
 have z:=vN a;have A:=fY a C B;refine eM call216 λF hF=>?_
 refine WW ?_;refine zS 5 1001 5 Z Z Z ?_;refine wH 2 [1001,1101] [5,10,1,8,9] Z ?_;refine yD (st0:=⟨[(5,.ref 1001 0 0),(10,iA 0),(1,.fn 262 []),(8,.sl false [zX a]),(9,iA 1)],[(1001,.arr 5 [] ⟨true,false⟩)]⟩) Z ?_
 (have gd:=z;have gn:=A;(repeat' (first|refine dZ ?_|apply yZ|apply xM|intro hc|(apply zG;first|(apply yR;refine qV (xs:=[_]) 1002 tok Z Z Z Z Z Z Z Z Z Z Z Z ?_)|(apply yG;first|refine wE tok Z Z Z Z Z Z Z (by intro y u;cases u;rfl) Z Z Z zW Z ?_|refine wP tok Z Z Z Z Z Z Z Z Z Z Z (by intro y u;cases u;rfl) zW Z ?_))|refine SB ?_|fail))<;>clear gd gn)
 refine yD (st0:=⟨[(5,.ref 1001 0 1),(10,iA 1),(1,.fn 262 []),(8,.sl false [zX a]),(9,iA 1)],[(1001,.arr 5 [wI a 1101] ⟨false,true⟩),(1101,qT a)]⟩) Z ?_;refine WW ?_;exact zP [1001,1101] Z Z Z Z
def AY (a:Rq) (z:1<=ln a.legs) (u:ln a.legs<=1000):zO 219 [zD zX [a]] [] (.ref 1001 0 1) [(1001,.arr 5 [wI a 1101] ⟨false,true⟩),(1101,qT a)]:=by
 have c:=fu a z u;refine eM call219 λF hF=>?_
 refine zQ c ?_;exact zP [1001,1101] Z Z Z Z
def du (a b:Rq) (I:1<=ln a.legs) (E:ln a.legs<=1000) (hb:1<=ln b.legs) (G:ln b.legs<=1000):zO 216 [zD zX [a,b],.fn 262 []] [] (.ref 1001 0 2) [(1001,.arr 5 [wI a 1101,wI b 1102] ⟨true,true⟩),(1101,qT a),(1102,qT b)]:=by
 have z:=vN a;have B:=fY a I E;have A:=vN b;have C:=ZX b hb G;refine eM call216 λF hF=>?_
 refine WW ?_;refine zS 5 1001 5 Z Z Z ?_;refine wH 3 [1001,1101,1102] [5,10,1,8,9] Z ?_;refine yD (st0:=⟨[(5,.ref 1001 0 0),(10,iA 0),(1,.fn 262 []),(8,.sl false [zX a,zX b]),(9,iA 2)],[(1001,.arr 5 [] ⟨true,false⟩)]⟩) Z ?_
 (have gd:=z;have gn:=B;(repeat' (first|refine dZ ?_|apply yZ|apply xM|intro hc|(apply zG;first|(apply yR;refine qV (xs:=[_]) 1002 tok Z Z Z Z Z Z Z Z Z Z Z Z ?_)|(apply yG;first|refine wE tok Z Z Z Z Z Z Z (by intro y u;cases u;rfl) Z Z Z zW Z ?_|refine wP tok Z Z Z Z Z Z Z Z Z Z Z (by intro y u;cases u;rfl) zW Z ?_))|refine SB ?_|fail))<;>clear gd gn)
 refine yD (st0:=⟨[(5,.ref 1001 0 1),(10,iA 1),(1,.fn 262 []),(8,.sl false [zX a,zX b]),(9,iA 2)],[(1001,.arr 5 [wI a 1101] ⟨false,true⟩),(1101,qT a)]⟩) Z ?_
 (have gd:=A;have gn:=C;(repeat' (first|refine dZ ?_|apply yZ|apply xM|intro hc|(apply zG;first|(apply yR;refine qV (xs:=[_]) 1002 tok Z Z Z Z Z Z Z Z Z Z Z Z ?_)|(apply yG;first|refine wE tok Z Z Z Z Z Z Z (by intro y u;cases u;rfl) Z Z Z zW Z ?_|refine wP tok Z Z Z Z Z Z Z Z Z Z Z (by intro y u;cases u;rfl) zW Z ?_))|refine SB ?_|fail))<;>clear gd gn)
 refine yD (st0:=⟨[(5,.ref 1001 0 2),(10,iA 2),(1,.fn 262 []),(8,.sl false [zX a,zX b]),(9,iA 2)],[(1001,.arr 5 [wI a 1101,wI b 1102] ⟨true,true⟩),(1101,qT a),(1102,qT b)]⟩) Z ?_;refine WW ?_;exact zP [1001,1101,1102] Z Z Z Z
def AZ (a b:Rq) (A:1<=ln a.legs) (u:ln a.legs<=1000) (hb:1<=ln b.legs) (z:ln b.legs<=1000):zO 219 [zD zX [a,b]] [] (.ref 1001 0 2) [(1001,.arr 5 [wI a 1101,wI b 1102] ⟨true,true⟩),(1101,qT a),(1102,qT b)]:=by
 have c:=du a b A u hb z;refine eM call219 λF hF=>?_
 refine zQ c ?_;exact zP [1001,1101,1102] Z Z Z Z
def pu (a b c:Rq) (M:1<=ln a.legs) (I:ln a.legs<=1000) (hb:1<=ln b.legs) (L:ln b.legs<=1000) (hc:1<=ln c.legs) (gc:ln c.legs<=1000):zO 216 [zD zX [a,b,c],.fn 262 []] [] (.ref 1001 0 3) [(1001,.arr 5 [wI a 1101,wI b 1102,wI c 1103] ⟨true,true⟩),(1101,qT a),(1102,qT b),(1103,qT c)]:=by
 have z:=vN a;have C:=fY a M I;have A:=vN b;have E:=ZX b hb L;have B:=vN c;have G:=RU c hc gc;refine eM call216 λF hF=>?_
 refine WW ?_;refine zS 5 1001 5 Z Z Z ?_;refine wH 4 [1001,1101,1102,1103] [5,10,1,8,9] Z ?_;refine yD (st0:=⟨[(5,.ref 1001 0 0),(10,iA 0),(1,.fn 262 []),(8,.sl false [zX a,zX b,zX c]),(9,iA 3)],[(1001,.arr 5 [] ⟨true,false⟩)]⟩) Z ?_
 (have gd:=z;have gn:=C;(repeat' (first|refine dZ ?_|apply yZ|apply xM|intro hc|(apply zG;first|(apply yR;refine qV (xs:=[_]) 1002 tok Z Z Z Z Z Z Z Z Z Z Z Z ?_)|(apply yG;first|refine wE tok Z Z Z Z Z Z Z (by intro y u;cases u;rfl) Z Z Z zW Z ?_|refine wP tok Z Z Z Z Z Z Z Z Z Z Z (by intro y u;cases u;rfl) zW Z ?_))|refine SB ?_|fail))<;>clear gd gn)
 refine yD (st0:=⟨[(5,.ref 1001 0 1),(10,iA 1),(1,.fn 262 []),(8,.sl false [zX a,zX b,zX c]),(9,iA 3)],[(1001,.arr 5 [wI a 1101] ⟨false,true⟩),(1101,qT a)]⟩) Z ?_
 (have gd:=A;have gn:=E;(repeat' (first|refine dZ ?_|apply yZ|apply xM|intro hc|(apply zG;first|(apply yR;refine qV (xs:=[_]) 1002 tok Z Z Z Z Z Z Z Z Z Z Z Z ?_)|(apply yG;first|refine wE tok Z Z Z Z Z Z Z (by intro y u;cases u;rfl) Z Z Z zW Z ?_|refine wP tok Z Z Z Z Z Z Z Z Z Z Z (by intro y u;cases u;rfl) zW Z ?_))|refine SB ?_|fail))<;>clear gd gn)
 refine yD (st0:=⟨[(5,.ref 1001 0 2),(10,iA 2),(1,.fn 262 []),(8,.sl false [zX a,zX b,zX c]),(9,iA 3)],[(1001,.arr 5 [wI a 1101,wI b 1102] ⟨true,true⟩),(1101,qT a),(1102,qT b)]⟩) Z ?_
 (have gd:=B;have gn:=G;(repeat' (first|refine dZ ?_|apply yZ|apply xM|intro hc|(apply zG;first|(apply yR;refine qV (xs:=[_]) 1002 tok Z Z Z Z Z Z Z Z Z Z Z Z ?_)|(apply yG;first|refine wE tok Z Z Z Z Z Z Z (by intro y u;cases u;rfl) Z Z Z zW Z ?_|refine wP tok Z Z Z Z Z Z Z Z Z Z Z (by intro y u;cases u;rfl) zW Z ?_))|refine SB ?_|fail))<;>clear gd gn)
 refine yD (st0:=⟨[(5,.ref 1001 0 3),(10,iA 3),(1,.fn 262 []),(8,.sl false [zX a,zX b,zX c]),(9,iA 3)],[(1001,.arr 5 [wI a 1101,wI b 1102,wI c 1103] ⟨true,true⟩),(1101,qT a),(1102,qT b),(1103,qT c)]⟩) Z ?_;refine WW ?_;exact zP [1001,1101,1102,1103] Z Z Z Z
def za (a b c:Rq) (A:1<=ln a.legs) (u:ln a.legs<=1000) (hb:1<=ln b.legs) (z:ln b.legs<=1000) (hc:1<=ln c.legs) (gc:ln c.legs<=1000):zO 219 [zD zX [a,b,c]] [] (.ref 1001 0 3) [(1001,.arr 5 [wI a 1101,wI b 1102,wI c 1103] ⟨true,true⟩),(1101,qT a),(1102,qT b),(1103,qT c)]:=by
 have c:=pu a b c A u hb z hc gc;refine eM call219 λF hF=>?_
 refine zQ c ?_;exact zP [1001,1101,1102,1103] Z Z Z Z
theorem ou (a b c d:Rq) (R:1<=a.legs.length) (L:a.legs.length<=1000) (hb:1<=b.legs.length) (M:b.legs.length<=1000) (hc:1<=c.legs.length) (gc:c.legs.length<=1000) (hd:1<=d.legs.length) (O:d.legs.length<=1000):zO 216 [zD zX [a,b,c,d],.fn 262 []] [] (.ref 1001 0 4) [(1001,.arr 5 [wI a 1101,wI b 1102,wI c 1103,wI d 1104] ⟨true,true⟩),(1101,qT a),(1102,qT b),(1103,qT c),(1104,qT d)]:=by
 have z:=vN a;have E:=fY a R L;have A:=vN b;have G:=ZX b hb M;have B:=vN c;have I:=RU c hc gc;have C:=vN d;have dd:=EK d hd O;refine eM call216 λF hF=>?_
 refine WW ?_;refine zS 5 1001 5 Z Z Z ?_;refine wH 5 [1001,1101,1102,1103,1104] [5,10,1,8,9] Z ?_;refine yD (st0:=⟨[(5,.ref 1001 0 0),(10,iA 0),(1,.fn 262 []),(8,.sl false [zX a,zX b,zX c,zX d]),(9,iA 4)],[(1001,.arr 5 [] ⟨true,false⟩)]⟩) Z ?_
 (have gd:=z;have gn:=E;(repeat' (first|refine dZ ?_|apply yZ|apply xM|intro hc|(apply zG;first|(apply yR;refine qV (xs:=[_]) 1002 tok Z Z Z Z Z Z Z Z Z Z Z Z ?_)|(apply yG;first|refine wE tok Z Z Z Z Z Z Z (by intro y u;cases u;rfl) Z Z Z zW Z ?_|refine wP tok Z Z Z Z Z Z Z Z Z Z Z (by intro y u;cases u;rfl) zW Z ?_))|refine SB ?_|fail))<;>clear gd gn)
 refine yD (st0:=⟨[(5,.ref 1001 0 1),(10,iA 1),(1,.fn 262 []),(8,.sl false [zX a,zX b,zX c,zX d]),(9,iA 4)],[(1001,.arr 5 [wI a 1101] ⟨false,true⟩),(1101,qT a)]⟩) Z ?_
 (have gd:=A;have gn:=G;(repeat' (first|refine dZ ?_|apply yZ|apply xM|intro hc|(apply zG;first|(apply yR;refine qV (xs:=[_]) 1002 tok Z Z Z Z Z Z Z Z Z Z Z Z ?_)|(apply yG;first|refine wE tok Z Z Z Z Z Z Z (by intro y u;cases u;rfl) Z Z Z zW Z ?_|refine wP tok Z Z Z Z Z Z Z Z Z Z Z (by intro y u;cases u;rfl) zW Z ?_))|refine SB ?_|fail))<;>clear gd gn)
 refine yD (st0:=⟨[(5,.ref 1001 0 2),(10,iA 2),(1,.fn 262 []),(8,.sl false [zX a,zX b,zX c,zX d]),(9,iA 4)],[(1001,.arr 5 [wI a 1101,wI b 1102] ⟨true,true⟩),(1101,qT a),(1102,qT b)]⟩) Z ?_
 (have gd:=B;have gn:=I;(repeat' (first|refine dZ ?_|apply yZ|apply xM|intro hc|(apply zG;first|(apply yR;refine qV (xs:=[_]) 1002 tok Z Z Z Z Z Z Z Z Z Z Z Z ?_)|(apply yG;first|refine wE tok Z Z Z Z Z Z Z (by intro y u;cases u;rfl) Z Z Z zW Z ?_|refine wP tok Z Z Z Z Z Z Z Z Z Z Z (by intro y u;cases u;rfl) zW Z ?_))|refine SB ?_|fail))<;>clear gd gn)
 refine yD (st0:=⟨[(5,.ref 1001 0 3),(10,iA 3),(1,.fn 262 []),(8,.sl false [zX a,zX b,zX c,zX d]),(9,iA 4)],[(1001,.arr 5 [wI a 1101,wI b 1102,wI c 1103] ⟨true,true⟩),(1101,qT a),(1102,qT b),(1103,qT c)]⟩) Z ?_
 (have gd:=C;have gn:=dd;(repeat' (first|refine dZ ?_|apply yZ|apply xM|intro hc|(apply zG;first|(apply yR;refine qV (xs:=[_]) 1002 tok Z Z Z Z Z Z Z Z Z Z Z Z ?_)|(apply yG;first|refine wE tok Z Z Z Z Z Z Z (by intro y u;cases u;rfl) Z Z Z zW Z ?_|refine wP tok Z Z Z Z Z Z Z Z Z Z Z (by intro y u;cases u;rfl) zW Z ?_))|refine SB ?_|fail))<;>clear gd gn)
 refine yD (st0:=⟨[(5,.ref 1001 0 4),(10,iA 4),(1,.fn 262 []),(8,.sl false [zX a,zX b,zX c,zX d]),(9,iA 4)],[(1001,.arr 5 [wI a 1101,wI b 1102,wI c 1103,wI d 1104] ⟨true,true⟩),(1101,qT a),(1102,qT b),(1103,qT c),(1104,qT d)]⟩) Z ?_;refine WW ?_;exact zP [1001,1101,1102,1103,1104] Z Z Z Z
def ya (a b c d:Rq) (B:1<=ln a.legs) (u:ln a.legs<=1000) (hb:1<=ln b.legs) (z:ln b.legs<=1000) (hc:1<=ln c.legs) (gc:ln c.legs<=1000) (hd:1<=ln d.legs) (A:ln d.legs<=1000):zO 219 [zD zX [a,b,c,d]] [] (.ref 1001 0 4) [(1001,.arr 5 [wI a 1101,wI b 1102,wI c 1103,wI d 1104] ⟨true,true⟩),(1101,qT a),(1102,qT b),(1103,qT c),(1104,qT d)]:=by
 have c:=ou a b c d B u hb z hc gc hd A;refine eM call219 λF hF=>?_
 refine zQ c ?_;exact zP [1001,1101,1102,1103,1104] Z Z Z Z
theorem RV (K:List Nat) (h:yS):∀a b:List AV,kJ K h (a++b)=kJ K h a++kJ K h b
 | [],b=>rfl
 |v::a,b=>by rw[zC0,kJ,kJ,RV K h a b];rfl
theorem RW (K:List Nat) (h:yS):∀l:List Rq,kJ K h (l.map zX)=l.map zX
 | []=>rfl
 |r::l=>by rw[zBk,kJ,RW K h l];rfl
theorem PV (K:List Nat) (h:yS):∀a b:List AV,vA K h (a++b)=vA K h a++vA K h b
 | [],b=>rfl
 |v::a,b=>by rw[zC0,vA,vA,PV K h a b];rfl
theorem KI (K:List Nat) (h:yS):∀l:List Rq,vA K h (l.map zX)=l.map zX
 | []=>rfl
 |r::l=>by rw[zBk,vA,KI K h l];rfl
theorem ZY:∀a b:List AV,wU (a++b)=(wU a&&wU b)
 | [],b=>rfl
 |v::a,b=>by rw[zC0,wU,wU,ZY a b,Bool.and_assoc]
theorem VN:∀l:List Rq,wU (l.map zX)=true
 | []=>rfl
 |r::l=>by rw[zBk,wU,VN l];rfl
def eU (ga:List Rq) (x:Rq) (post:List Rq) (k:Nat):List AV:=ga.map zX++wI x k::post.map zX
def fZ (ga:List Rq) (x:Rq) (post:List Rq) (k:Nat):(eU ga x post k).length=ln ga+1+ln post:=by simp[eU];omega
def cS (h:yS) (ga:List Rq) (x:Rq) (post:List Rq) (b:Bool):qE [1001,1101] h (.arr 5 (eU ga x post 1101) ⟨b,true⟩)= .arr 5 (eU ga x post 1101) ⟨b,true⟩:=by
 have e:kJ [1001,1101] h (eU ga x post 1101)=eU ga x post 1101:=by
  unfold eU;rw[RV,RW,kJ,RW];rfl
 have u:wU (eU ga x post 1101)=false:=by
  unfold eU;rw[ZY,VN,wU];rfl
 simp_all [yS,qE,eU]
def Ef (ga:List Rq) (x:Rq) (post:List Rq) (k:Nat) (y:Rq):eU ga x post k++[zX y]=eU ga x (post++[y]) k:=by grind [eU,zX]
theorem nu (ga:List Rq) (x:Rq) (post:List Rq) (l:List Rq) (hL:l=ga++x::post) (V:ln l<=1000) (hb:∀r∈l,1<=ln r.legs/\r.legs.length<=1000):
  zO 216 [zD zX l,.fn 262 []] [] (.ref 1001 0 (eU ga x post 1101).length) [(1001,.arr 5 (eU ga x post 1101) ⟨true,true⟩),(1101,qT x)]:=by
 have hl:=zA zX l;have M:ln l=ln ga+1+ln post:=by rw[hL];simp;omega
 refine eM call216 λF hF=>?_
 refine WW ?_;refine zS 5 1001 5 rfl rfl rfl ?_;refine wF (λn st=>∃i,n+i=ln l/\st=if i<=ln ga then(⟨[(5,.ref 1001 0 ((l.take i).map zX).length),(10,iA i),(1,.fn 262 []),(8,zD zX l),(9,iA (l.map zX).length)],[(1001,.arr 5 ((l.take i).map zX) true)]⟩:St)else⟨[(5,.ref 1001 0 (eU ga x (post.take (i-ga.length-1)) 1101).length),(10,iA i),(1,.fn 262 []),(8,zD zX l),(9,iA (l.map zX).length)],[(1001,.arr 5 (eU ga x (post.take (i-ga.length-1)) 1101) ⟨true,true⟩),(1101,qT x)]⟩) (ln l) [1001,1101] [5,10,1,8,9] rfl ⟨0,zB,by rw[Os (zAr _)];rfl⟩ ?_;rintro n st ⟨i,hi,rfl⟩;by_cases R:i<ln ga
 .rw[Os zB];have z:=zJ zX l i zB;have C:l.getD i dd∈l:=by simp[nm,show i<ln l by omega]
  have hs:=hb _ C
  have e:(l.take (i+1)).map zX=(l.take i).map zX++[zX (l.getD i dd)]:=by
   rw[zCz,zAf,zA4 zB];simp[nm,show i<ln l by omega]
  have S:((l.take i).map zX).length=i:=by rw[zAa,zAw];omega
  have u:i<ln l:=by omega
  clear C;generalize l.getD i dd=r at *;have A:=vN r;have B:=RY r zB
  (have gd:=A;have gn:=B;(repeat' (first|refine uD ?_|apply yZ|apply xM|intro hc|(apply zG;first|(apply yG;refine qB (nw:=[]) (wV true false tok Z Z Z Z Z Z (λh=>by cases h) Z (by intro y z;cases z;rfl) Z Z Z Z (by simp only[fZ,zAa,zAw,zAm,zBh,zA8];omega) (λh=>by cases h)) Z Z Z ?_)|refine SM ?_)|fail))<;>clear gd gn)
  exact⟨n-1,zB,i+1,zB,by rw[Os zB,e];rfl⟩
 by_cases G:i=ln ga
 .rw[Os zB];subst G;have u:ln ga<ln l:=by omega
  have U:(l.take (ln ga)).map zX=ga.map zX:=by rw[hL];simp
  have z:(l.map zX)[ln ga]? =some (zX x):=by rw[hL];simp
  have hs:=hb x Qa;rw[U];clear hL;have A:=vN x;have B:=fY x zB zB;have I:ln ga<=1000:=by omega
  (have gd:=A;have gn:=B;(repeat' (first|refine dZ ?_|apply yZ|apply xM|intro hc|(apply zG;first|(apply yR;refine qV (xs:=[_]) 1002 tok Z Z Z Z Z Z Z Z Z Z Z Z ?_)|(apply yG;refine qB (nw:=[]) (wV true true tok Z Z Z Z Z Z (λh=>by cases h) Z (by intro y z;cases z;rfl) Z Z Z Z (by simp only[fZ,zAa,zAw,zAm,zBh,zA8];omega) (λh=>by cases h)) Z Z Z ?_))|refine SB ?_|fail))<;>clear gd gn)
  refine⟨n-1,zB,ln ga+1,zB,?_⟩;rw[Of zB,show (ln ga)+1-ga.length-1=0 by omega];refine zAv (St.mk _) ?_
  show [(1001,qE [1001,1101] _ (.arr 5 (eU ga x [] 1101) ⟨true,true⟩)),(1101,qT x)]=_
  rw[cS];rfl
 rw[Of zB];by_cases u:i<ln l
 .have z:=zJ zX l i u;have C:l.getD i dd∈l:=by simp[nm,u]
  have hs:=hb _ C
  have L:post[i-ga.length-1]? =some (l.getD i dd):=by
   have h1:l[i]? =some (l.getD i dd):=by simp[nm,u]
   rw[hL,zBc zB]at h1;rw[show i-ga.length=(i-ga.length-1)+1 by omega,List.getElem?_cons_succ]at h1;rw[<-hL]at h1;exact h1
  have e:eU ga x (post.take (i+1-ga.length-1)) 1101=eU ga x (post.take (i-ga.length-1)) 1101++[zX (l.getD i dd)]:=by
   rw[Ef,show i+1-ga.length-1=(i-ga.length-1)+1 by omega,zCz,L];rfl
  have O:=fZ ga x (post.take (i-ga.length-1)) 1101;have I:(post.take (i-ga.length-1)).length<=1000:=by rw[zAw];omega
  have E:=λh=>cS h ga x (post.take (i+1-ga.length-1)) true
  rw[e]at E;clear C L hL;generalize l.getD i dd=r,eU ga x (post.take (i-ga.length-1)) 1101=cs at *;have A:=vN r;have B:=RY r zB
  (have gd:=A;have gn:=B;(repeat' (first|refine uD ?_|apply yZ|apply xM|intro hc|(apply zG;first|(apply yG;refine qB (nw:=[]) (wV true true tok Z Z Z Z Z Z (λh=>by cases h) Z (by intro y z;cases z;rfl) Z Z Z Z (by simp only[fZ,zAa,zAw,zAm,zBh,zA8];omega) (λh=>by cases h)) Z Z Z ?_)|refine SM ?_)|fail))<;>clear gd gn)
  refine⟨n-1,zB,i+1,zB,?_⟩;rw[Of zB,e];refine zAv (St.mk _) ?_
  show [(1001,qE [1001,1101] _ (.arr 5 (cs++[zX r]) ⟨true,true⟩)),(1101,qT x)]=_
  rw[E]
 .have E:=λh=>cS h ga x post true
  rw[show i-ga.length-1=ln post by omega,zAb];generalize eU ga x post 1101=cs at *;refine WW ?_;refine zP [1001,1101] Z Z Z ?_
  show [(1001,qE [1001,1101] _ (.arr 5 cs ⟨true,true⟩)),(1101,qT x)]=_
  rw[E]
def wa (ga:List Rq) (x:Rq) (post:List Rq) (l:List Rq) (hL:l=ga++x::post) (z:ln l<=1000) (hb:∀r∈l,1<=ln r.legs/\r.legs.length<=1000):
  zO 219 [zD zX l] [] (.ref 1001 0 (eU ga x post 1101).length) [(1001,.arr 5 (eU ga x post 1101) ⟨true,true⟩),(1101,qT x)]:=by
 have c:=nu ga x post l hL z hb;have u:=λh=>cS h ga x post true
 generalize eU ga x post 1101=cs at *;refine eM call219 λF hF=>?_
 refine zQ c ?_;refine zP [1001,1101] Z Z Z ?_
 show [(1001,qE [1001,1101] _ (.arr 5 cs ⟨true,true⟩)),(1101,qT x)]=_
 rw[u]
theorem mu (ga:List Rq) (x:Rq) (post:List Rq) (l:List Rq) (hL:l=ga++x::post) (U:ln l<=1000) (hb:∀r∈l,1<=ln r.legs/\r.legs.length<=1000):
  zO 170 [zD zX l] [] (.ref 1001 0 (eU ga x post 1101).length) [(1001,.arr 5 (eU ga x post 1101) ⟨true,true⟩),(1101,qT x)]:=by
 have hl:=zA zX l;have L:ln l=ln ga+1+ln post:=by rw[hL];simp;omega
 refine eM call170 λF hF=>?_
 refine WW ?_;refine zS 3 1001 5 rfl rfl rfl ?_;refine wF (λn st=>∃i,n+i=ln l/\st=if i<=ln ga then(⟨[(3,.ref 1001 0 ((l.take i).map zX).length),(8,iA i),(6,zD zX l),(7,iA (l.map zX).length)],[(1001,.arr 5 ((l.take i).map zX) true)]⟩:St)else⟨[(3,.ref 1001 0 (eU ga x (post.take (i-ga.length-1)) 1101).length),(8,iA i),(6,zD zX l),(7,iA (l.map zX).length)],[(1001,.arr 5 (eU ga x (post.take (i-ga.length-1)) 1101) ⟨true,true⟩),(1101,qT x)]⟩) (ln l) [1001,1101] [3,8,6,7] rfl ⟨0,zB,by rw[Os (zAr _)];rfl⟩ ?_;rintro n st ⟨i,hi,rfl⟩;by_cases O:i<ln ga
 .rw[Os zB];have z:=zJ zX l i zB;have A:l.getD i dd∈l:=by simp[nm,show i<ln l by omega]
  have hs:=hb _ A
  have e:(l.take (i+1)).map zX=(l.take i).map zX++[zX (l.getD i dd)]:=by
   rw[zCz,zAf,zA4 zB];simp[nm,show i<ln l by omega]
  have R:((l.take i).map zX).length=i:=by rw[zAa,zAw];omega
  have u:i<ln l:=by omega
  clear A;generalize l.getD i dd=r at *;have B:=zA yN r.legs
  (repeat' (first|refine dZ ?_|apply yZ|apply xM|intro hc|(apply zG;first|(apply yG;refine qB (nw:=[]) (wV true false tok Z Z Z Z Z Z (λh=>by cases h) Z (by intro y z;cases z;rfl) Z Z Z Z (by simp only[fZ,zAa,zAw,zAm,zBh,zA8];omega) (λh=>by cases h)) Z Z Z ?_)|refine SL ?_|refine SM ?_)|refine SB ?_|fail))
  exact⟨n-1,zB,i+1,zB,by rw[Os zB,e];rfl⟩
 by_cases E:i=ln ga
 .rw[Os zB];subst E;have u:ln ga<ln l:=by omega
  have S:(l.take (ln ga)).map zX=ga.map zX:=by rw[hL];simp
  have z:(l.map zX)[ln ga]? =some (zX x):=by rw[hL];simp
  have hs:=hb x Qa;rw[S];clear hL;have B:=zA yN x.legs;have G:ln ga<=1000:=by omega
  (repeat' (first|refine dZ ?_|apply yZ|apply xM|intro hc|(apply zG;first|(apply yG;refine wA 1101 tok Z Z Z Z Z Z (zZ _ _ (λ_=>rfl)) Z Z Z zB Z Z Z ?_)|(apply yR;refine qV (xs:=[_]) 1002 tok Z Z Z Z Z Z Z Z Z Z Z Z ?_)|(apply yG;refine qB (nw:=[]) (wV true true tok Z Z Z Z Z Z (λh=>by cases h) Z (by intro y z;cases z;rfl) Z Z Z Z (by simp only[fZ,zAa,zAw,zAm,zBh,zA8];omega) (λh=>by cases h)) Z Z Z ?_))|refine SB ?_|fail))
  refine⟨n-1,zB,ln ga+1,zB,?_⟩;rw[Of zB,show (ln ga)+1-ga.length-1=0 by omega];refine zAv (St.mk _) ?_
  show [(1001,qE [1001,1101] _ (.arr 5 (eU ga x [] 1101) ⟨true,true⟩)),(1101,qT x)]=_
  rw[cS];rfl
 rw[Of zB];by_cases u:i<ln l
 .have z:=zJ zX l i u;have A:l.getD i dd∈l:=by simp[nm,u]
  have hs:=hb _ A
  have I:post[i-ga.length-1]? =some (l.getD i dd):=by
   have h1:l[i]? =some (l.getD i dd):=by simp[nm,u]
   rw[hL,zBc zB]at h1;rw[show i-ga.length=(i-ga.length-1)+1 by omega,List.getElem?_cons_succ]at h1;rw[<-hL]at h1;exact h1
  have e:eU ga x (post.take (i+1-ga.length-1)) 1101=eU ga x (post.take (i-ga.length-1)) 1101++[zX (l.getD i dd)]:=by
   rw[Ef,show i+1-ga.length-1=(i-ga.length-1)+1 by omega,zCz,I];rfl
  have M:=fZ ga x (post.take (i-ga.length-1)) 1101;have G:(post.take (i-ga.length-1)).length<=1000:=by rw[zAw];omega
  have C:=λh=>cS h ga x (post.take (i+1-ga.length-1)) true
  rw[e]at C;clear A I hL;generalize l.getD i dd=r,eU ga x (post.take (i-ga.length-1)) 1101=cs at *;have B:=zA yN r.legs
  (repeat' (first|refine dZ ?_|apply yZ|apply xM|intro hc|(apply zG;first|(apply yG;refine qB (nw:=[]) (wV true true tok Z Z Z Z Z Z (λh=>by cases h) Z (by intro y z;cases z;rfl) Z Z Z Z (by simp only[fZ,zAa,zAw,zAm,zBh,zA8];omega) (λh=>by cases h)) Z Z Z ?_)|refine SL ?_|refine SM ?_)|refine SB ?_|fail))
  refine⟨n-1,zB,i+1,zB,?_⟩;rw[Of zB,e];refine zAv (St.mk _) ?_
  show [(1001,qE [1001,1101] _ (.arr 5 (cs++[zX r]) ⟨true,true⟩)),(1101,qT x)]=_
  rw[C]
 .have C:=λh=>cS h ga x post true
  rw[show i-ga.length-1=ln post by omega,zAb];generalize eU ga x post 1101=cs at *;refine WW ?_;refine zP [1001,1101] Z Z Z ?_
  show [(1001,qE [1001,1101] _ (.arr 5 cs ⟨true,true⟩)),(1101,qT x)]=_
  rw[C]
def NH (p:Int×Int):AV:= .agg [iA p.1,iA p.2]
def CN (f4:Int) (g:Lg) (p:Int×Int):Lg:=⟨g.jn,g.ph,f4+p.1,f4+p.2,g.sc⟩
def HZ (f4:Int) (g:Lg) (p:Int×Int):Bool:=CP g.jn g.ph p.1 p.2 f4
def va (gs:List Lg) (w:List (Int×Int)) (f4:Int):Bool:=(gs.zipWith (HZ f4) w).all id
def dD (l:List Rq) (id:Int) (w:List (Int×Int)) (f4:Int):Int:=
 if jF l id=true then(if (ln w)=(Jr l id).legs.length/\va (Jr l id).legs w f4=true then 0 else 8)else 12
def XU (l:List Rq) (id:Int) (w:List (Int×Int)) (f4:Int):List Rq:=l.map λr=>if r.id=id then⟨r.id,r.vh,r.cls,r.til,r.legs.zipWith (CN f4) w⟩else r
def IX (gs:List Lg) (w:List (Int×Int)) (f4:Int) (i:Nat):List Lg:=(gs.take i).zipWith (CN f4) (w.take i)++gs.drop i
def MK (h:ln w=ln gs) (hi:i<=ln gs):(IX gs w f4 i).length=ln gs:=by grind [IX]
def Gm (h:ln w=ln gs) (hi:i<ln gs):((IX gs w f4 i).map yN)[i]? =some (yN (gs.getD i dd)):=by grind [IX,yN]
def Df (h:ln w=ln gs) (hi:i<ln gs):((IX gs w f4 i).map yN).set i (yN (CN f4 (gs.getD i dd) (w.getD i dd)))=(IX gs w f4 (i+1)).map yN:=by
 unfold IX;have e:((gs.take i).zipWith (CN f4) (w.take i)).length=i:=by rw[List.length_zipWith,zAw,zAw];omega
 rw[<-zBs,zDe _ _ zB,e,zCl,zDu hi,zEb];rw[zCz,zCz,List.zipWith_append (by rw[zAw,zAw];omega)]
 simp_all [IX,yN,CN]
def Qx (gs:List Lg) (w:List (Int×Int)) (f4:Int):IX gs w f4 0=gs:=by simp[IX]
def Bf (h:ln w=ln gs):IX gs w f4 (ln gs)=gs.zipWith (CN f4) w:=by grind [IX,CN]
def Af (h:ln w=ln gs) (u:∀i,i<ln gs->HZ f4 (gs.getD i dd) (w.getD i dd)=true):va gs w f4=true:=by grind [HZ,va,List.all_eq_true,List.mem_iff_getElem,List.length_zipWith,List.getD]
def Fm (h:ln w=ln gs) (hi:i<ln gs) (u:HZ f4 (gs.getD i dd) (w.getD i dd)=false):va gs w f4=false:=by
 unfold va;rw[zDj];refine⟨HZ f4 (gs.getD i dd) (w.getD i dd),?_,by rw[u];decide⟩
 have:(gs.zipWith (HZ f4) w)[i]? =some (HZ f4 (gs.getD i dd) (w.getD i dd)):=by
  grind
 grind
def EL {id:Int} (hL:l=ga++x::post) (hv:bW l) (hx:x.id=id):XU l id w f4=ga++⟨x.id,x.vh,x.cls,x.til,x.legs.zipWith (CN f4) w⟩::post:=by
 have hs:=hv.so;rw[hL,zEn,zFg]at hs;obtain⟨_,⟨h2,_⟩,u⟩:=hs;unfold XU;rw[hL,zAf,zBk,Os hx]
 congr 1
 .conv=>rhs;rw[<-List.map_id ga]
  grind [XU,CN,List.map_congr_left]
 .congr 1
  conv=>rhs;rw[<-List.map_id post]
  grind [XU,CN,List.map_congr_left]
def zg {h:yS} {b:Bool} (h1:h 1001=some (.arr 5 (eU ga x post 1101) ⟨b,true⟩)) (h2:h 1101=some (.arr 5 (gs.map yN) false)) (hl:ln gs=ln x.legs):
  wQ [] h (.ref 1001 0 (eU ga x post 1101).length)=zD zX (ga++⟨x.id,x.vh,x.cls,x.til,gs⟩::post):=by
 have e:vA [] h (eU ga x post 1101)=(ga++⟨x.id,x.vh,x.cls,x.til,gs⟩::post).map zX:=by
  unfold eU;rw[PV,KI,vA,KI,zAf,zBk]
  congr 1
  congr 1
  show AV.agg [iA x.id,iA x.vh,iA x.cls,iA x.til,kI [] h (.ref 1101 0 (x.legs.map yN).length)]=_
  have z:kI [] h (.ref 1101 0 (x.legs.map yN).length)=zD yN gs:=by
   simp only[kI,h2]
   show AV.sl false (((gs.map yN).drop 0).take (x.legs.map yN).length)=_
   rw[zAu,zAa,zAj (by rw[zAa,hl];exact zAg _)];rfl
  rw[z];rfl
 have u:(eU ga x post 1101).length=((ga++⟨x.id,x.vh,x.cls,x.til,gs⟩::post).map zX).length:=by rw[fZ];simp;omega
 rw[u];simp only[wQ,h1]
 show(bif wU (vA [] h (eU ga x post 1101))then AV.sl false (((vA [] h (eU ga x post 1101)).drop 0).take _)else .bot)=_
 rw[e,VN,zAu,zAb];rfl
def PW {id:Int} (h:jF l id=true):∃ga x post,l=ga++x::post/\x.id=id/\(∀y∈ga,y.id≠id)/\Jr l id=x/\RZ (λr:Rq=>r.id==id) l=(ln ga:Int):=by
 induction l with
 |nil=>cases h
 |cons a l z=>
  by_cases u:a.id=id
  .refine⟨[],a,l,rfl,u,by simp,(Ff (ga:=[]) Z zW u).1,MM (ga:=[]) Z zW (by simpa using u)⟩
  all_goals grind [jF,Jr,RZ]
theorem Em (l:List Rq) (id:Int) (w:List (Int×Int)) (f4:Int) (hv:bW l) (hw:ln w<=1000) (n0:0<=f4) (n1:f4<=1073741824):
  zO 309 [zD zX l,iA id,zD NH w,iA f4] [] (.tup [zD zX (if dD l id w f4=0 then XU l id w f4 else []),iA (dD l id w f4)]) []:=by
 have h4:=hv.n4;have av:=zA NH w;have Y:=QD l 4 hv zB;have W:=bg f4;have I:=KL l id zB;rw[zAd ⟨n0,n1⟩]at W
 cases hh:jF l id with
 |false=>
  have hx:=ZC (p:=λx:Rq=>x.id==id) (l:=l) (by simpa [jF]using hh);rw[hx]at I;have e:dD l id w f4=12:=Of Sa;rw[e,Of yX];refine eM call309 λF hF=>?_
  exact ld (kC Y W I)
 |true=>
 obtain⟨ga,x,post,hL,hx,_,hf,M⟩:=PW hh;rw[M]at I;have E:=EL (w:=w) (f4:=f4) hL hv hx
 have A:dD l id w f4=if (ln w)=ln x.legs/\va x.legs w f4=true then 0 else 8:=by unfold dD;rw[Os hh,hf]
 have ag:ln l=ln ga+1+ln post:=by rw[hL];simp;omega
 have az:=hv.lg3 (r:=x) Qa;have c4:=wa ga x post l hL zB (λr hr=>by have:=hv.lg3 hr;omega);have ar:=fZ ga x post 1101;have L:=λh=>cS h ga x post true
 have ap:(eU ga x post 1101)[((ln ga:Int)).toNat]? =some (wI x 1101):=by unfold eU;simp
 have z:=λh gs=>zg (h:=h) (ga:=ga) (post:=post) (x:=x) (b:=true) (gs:=gs)
 have ax:=zA yN x.legs;generalize eU ga x post 1101=cs at *;clear hL hv M hf hh hx;by_cases u:ln w=ln x.legs
 case neg=>
  rw[Of (λh=>u h.1)]at A;rw[A,Of yX];refine eM call309 λF hF=>?_
  exact ld (aB Y W I c4)
 refine eM call309 λF hF=>?_
 refine yJ (aB Y W I c4) ?_;refine wF (λn st=>∃i,n+i=ln x.legs/\(∀j,j<i->HZ f4 (x.legs.getD j dd) (w.getD j dd)=true)/\st=(⟨[(44,iA i),(3,iA f4),(11,.ref 1001 0 (ln cs)),(12,.ref 1101 0 (x.legs.map yN).length),(42,zD NH w),(43,iA (w.map NH).length)],[(1001,.arr 5 cs ⟨true,true⟩),(1101,.arr 5 ((IX x.legs w f4 i).map yN) false)]⟩:St)) (ln x.legs) [1001,1101] [44,3,11,12,42,43] Z ⟨0,zB,λj hj=>absurd hj (zB7 _),?_⟩ ?_
 .rw[Qx];refine zAv (St.mk _) ?_
  show [(1001,qE [1001,1101] _ (.arr 5 cs ⟨true,true⟩)),(1101,qT x)]=_
  rw[L];rfl
 rintro n st ⟨i,hi,hok,rfl⟩;by_cases B:i<ln x.legs
 .have C:=MK (i:=i) (f4:=f4) u zB;have au:=zA yN (IX x.legs w f4 i);have a1:=zJ NH w i zB;have hy:=Gm (f4:=f4) u B;have U:=Df (f4:=f4) u B;have G:=vg (x.legs.getD i dd).jn (x.legs.getD i dd).ph (w.getD i dd).1 (w.getD i dd).2 f4
  cases hb:HZ f4 (x.legs.getD i dd) (w.getD i dd)with
  |false=>
   have O:=Fm u B hb;rw[Of (λh=>by rw[O]at h;cases h.2)]at A;rw[A,Of yX];unfold HZ at hb;unfold EO at G;rw[hb,Of zAp,Of zAp]at G;clear hok z E O U;generalize x.legs.getD i dd=g,w.getD i dd=q,(IX x.legs w f4 i).map yN=ys at *;exact lk G
  | true=>
   have R:∀j,j<i+1->HZ f4 (x.legs.getD j dd) (w.getD j dd)=true:=λj hj=>by
    by_cases ac:j=i
    .rw[ac];exact hb
    .exact hok j zB
   unfold HZ at hb;unfold EO at G;rw[hb,Os Z,Os Z]at G;have S:∀y:AV,(((IX x.legs w f4 i).map yN).set i y)[i]? =some y:=λy=>zA6 zB
   clear hok z E A hb;generalize x.legs.getD i dd=g,w.getD i dd=q,(IX x.legs w f4 i).map yN=ys at *
   (have gd:=G;(repeat' (first|refine O8 ?_|apply yZ|apply xM|intro hc|(apply zG;first|(apply gA;refine YB tok Z Z Z (S _) Z Z Z Z Z Z Z Z ?_)|refine SM ?_)|refine SB ?_|fail))<;>clear gd)
   refine⟨n-1,zB,i+1,zB,R,?_⟩;refine zAv (St.mk _) ?_
   show [(1001,qE [1001,1101] _ (.arr 5 cs ⟨true,true⟩)),(1101,.arr 5 ((ys.set i _).set i (yN (CN f4 g q))) false)]=_
   rw[L,zEr,U]
 .obtain rfl:i=ln x.legs:=by omega
  have C:=MK (i:=ln x.legs) (f4:=f4) u (zAg _);have V:=Af u hok;rw[Os ⟨u,V⟩]at A;rw[A,Os Z,E];rw[Bf u]at C⊢;generalize x.legs.zipWith (CN f4) w=gs at *;refine WW ?_;refine zH [] Z Z ?_ Z
  show AV.tup [YY (wQ [] _ (.ref 1001 0 (ln cs))),iA 0]=_
  rw[z _ gs Z Z C];rfl
def Dm (K:List Nat) (z:K.contains 1101=true) (h:yS) (ga:List Rq) (x:Rq) (post:List Rq) (b:Bool):qE K h (.arr 5 (eU ga x post 1101) ⟨b,true⟩)= .arr 5 (eU ga x post 1101) ⟨b,true⟩:=by
 have u:wQ K h (wI x 1101)=wI x 1101:=by
  show AV.agg [_,_,_,_,bif K.contains 1101 then .ref 1101 0 (x.legs.map yN).length else _]=_
  rw[z];rfl
 have e:kJ K h (eU ga x post 1101)=eU ga x post 1101:=by
  unfold eU;rw[RV,RW,kJ,RW,u]
 have A:wU (eU ga x post 1101)=false:=by
  unfold eU;rw[ZY,VN,wU];rfl
 simp_all [yS,qE,eU]
theorem qi (l:List Rq) (id:Int) (w:List (Int×Int)) (f4:Int) (hv:bW l) (hw:ln w<=1000) (n0:0<=f4) (n1:f4<=1073741824):
  zO 334 [zD zX l,iA id,zD NH w,iA f4] [] (.tup [zD zX (if dD l id w f4=0 then XU l id w f4 else []),iA (dD l id w f4)]) []:=by
 have h4:=hv.n4;have av:=zA NH w;have c1:=VS l 4 hv zB;have c2:=wS f4 0 1073741824;rw[zAd ⟨n0,n1⟩]at c2
 cases hh:jF l id with
 | false=>
  have c3:=dQ l zB (λr hr=>by have:=hv.lg3 hr;omega);have e:dD l id w f4=12:=Of Sa;have C:∀r∈l,r.id≠id:=by simpa [jF]using hh
  have hl:=zA zX l;rw[e,Of yX];clear hh e;refine eM call334 λF hF=>?_
  refine yJ (kC c1 c2 c3) ?_;refine zN (ln l) [] [] [1,2,3,10,27,28] [29,1,2,3,10,27,28] Z (λi T U=>⟨(29,iA i)::T,U⟩) (Lq ?_ ?_)
  .intro i hi;have hy:=zJ zX l i hi;have hm:=C (l.getD i dd) (by simp[nm,hi]);generalize l.getD i dd=r at *;refine WW ?_;rfl
  .exact lc
 |true=>
 obtain⟨ga,x,post,hL,hx,V,hf,_⟩:=PW hh;have M:=EL (w:=w) (f4:=f4) hL hv hx
 have G:dD l id w f4=if (ln w)=ln x.legs/\va x.legs w f4=true then 0 else 8:=by unfold dD;rw[Os hh,hf]
 have ap:ln l=ln ga+1+ln post:=by rw[hL];simp;omega
 have az:=hv.lg3 (r:=x) Qa;have c4:=mu ga x post l hL zB (λr hr=>by have:=hv.lg3 hr;omega);have ar:=fZ ga x post 1101;have I:=λh=>cS h ga x post true
 have E:=λh=>Dm [12,1001,1101] Z h ga x post true
 have R:(eU ga x post 1101)[ln ga]? =some (wI x 1101):=by unfold eU;simp
 have A:∀i,i<ln ga->∃r:Rq,r.id≠id/\(eU ga x post 1101)[i]? =some (zX r):=λi hi=>by
  refine⟨ga[i],V _ (zD9 hi),?_⟩;unfold eU;rw[zBg Pa];simp[hi]
 have z:=λh gs=>zg (h:=h) (ga:=ga) (post:=post) (x:=x) (b:=true) (gs:=gs)
 have ax:=zA yN x.legs;generalize eU ga x post 1101=cs at *;clear hL hv hf hh V;refine eM call334 λF hF=>?_
 refine yJ (kC c1 c2 c4) ?_;refine wF (λn st=>∃i,n+i=ln ga/\st=(⟨[(29,iA i),(1,iA id),(2,zD NH w),(3,iA f4),(10,.ref 1001 0 (ln cs)),(27,.ref 1001 0 (ln cs)),(28,iA (ln cs))],[(1001,.arr 5 cs ⟨true,true⟩),(1101,qT x)]⟩:St)) (ln ga) [1001,1101] [29,1,2,3,10,27,28] Z ⟨0,zB,?_⟩ ?_
 .refine zAv (St.mk _) ?_
  show [(1001,qE [1001,1101] _ (.arr 5 cs ⟨true,true⟩)),(1101,qT x)]=_
  rw[I]
 rintro n st ⟨i,hi,rfl⟩;by_cases B:i<ln ga
 .obtain⟨r,hr,hy⟩:=A i B;clear z A R;refine WW ?_;refine⟨n-1,zB,i+1,zB,?_⟩;refine zAv (St.mk _) ?_
  show [(1001,qE [1001,1101] _ (.arr 5 cs ⟨true,true⟩)),(1101,qT x)]=_
  rw[I]
 obtain rfl:i=ln ga:=by omega
 clear A I hi;have ag:cs[((ln ga:Int)).toNat]? =some (wI x 1101):=R;by_cases u:ln w=ln x.legs
 case neg=>
  rw[Of (λh=>u h.1)]at G;rw[G,Of yX];clear z;exact lc
 refine WW ?_;refine wF (λn st=>∃i,n+i=ln x.legs/\(∀j,j<i->HZ f4 (x.legs.getD j dd) (w.getD j dd)=true)/\st=(⟨[(46,iA i),(3,iA f4),(10,.ref 1001 0 (ln cs)),(11,iA (ln ga)),(12,.ptr 12 0 0),(44,zD NH w),(45,iA (w.map NH).length)],[(12,.box [iA x.id,iA x.vh,iA x.cls,iA x.til,.ref 1101 0 (x.legs.map yN).length]),(1001,.arr 5 cs ⟨true,true⟩),(1101,.arr 5 ((IX x.legs w f4 i).map yN) false)]⟩:St)) (ln x.legs) [12,1001,1101] [46,3,10,11,12,44,45] Z ⟨0,zB,λj hj=>absurd hj (zB7 _),?_⟩ ?_
 .rw[Qx];refine zAv (St.mk _) ?_
  show [(12,.box [iA x.id,iA x.vh,iA x.cls,iA x.til,.ref 1101 0 (x.legs.map yN).length]),(1001,qE [12,1001,1101] _ (.arr 5 cs ⟨true,true⟩)),(1101,qT x)]=_
  rw[E];rfl
 rintro n st ⟨i,hi,hok,rfl⟩;by_cases B:i<ln x.legs
 .have L:=MK (i:=i) (f4:=f4) u zB;have au:=zA yN (IX x.legs w f4 i);have a1:=zJ NH w i zB;have hy:=Gm (f4:=f4) u B;have W:=Df (f4:=f4) u B;have O:=ma (x.legs.getD i dd).jn (x.legs.getD i dd).ph (w.getD i dd).1 (w.getD i dd).2 f4
  cases hb:HZ f4 (x.legs.getD i dd) (w.getD i dd)with
  |false=>
   have C:=Fm u B hb;rw[Of (λh=>by rw[C]at h;cases h.2)]at G;rw[G,Of yX];unfold HZ at hb;unfold EO at O;rw[hb,Of zAp,Of zAp]at O;clear hok z M C W;generalize x.legs.getD i dd=g,w.getD i dd=q,(IX x.legs w f4 i).map yN=ys at *;exact lk O
  | true=>
   have S:∀j,j<i+1->HZ f4 (x.legs.getD j dd) (w.getD j dd)=true:=λj hj=>by
    by_cases ac:j=i
    .rw[ac];exact hb
    .exact hok j zB
   unfold HZ at hb;unfold EO at O;rw[hb,Os Z,Os Z]at O;clear hok z M G hb;generalize x.legs.getD i dd=g,w.getD i dd=q,(IX x.legs w f4 i).map yN=ys at *;refine zQ O ?_;refine⟨n-1,zB,i+1,zB,S,?_⟩;refine zAv (St.mk _) ?_
   show [(12,.box [iA x.id,iA x.vh,iA x.cls,iA x.til,.ref 1101 0 (x.legs.map yN).length]),(1001,qE [12,1001,1101] _ (.arr 5 cs ⟨true,true⟩)),(1101,.arr 5 (ys.set i (yN (CN f4 g q))) false)]=_
   rw[E,W]
 .obtain rfl:i=ln x.legs:=by omega
  have L:=MK (i:=ln x.legs) (f4:=f4) u (zAg _);have Y:=Af u hok;rw[Os ⟨u,Y⟩]at G;rw[G,Os Z,M];rw[Bf u]at L⊢;generalize x.legs.zipWith (CN f4) w=gs at *;refine WW ?_;refine zH [] Z Z ?_ Z
  show AV.tup [YY (wQ [] _ (.ref 1001 0 (ln cs))),iA 0]=_
  rw[z _ gs Z Z L];rfl
