/- Part 12. -/
import Derived.Test.YtdjfiebpnmieoaaGreatC11
namespace Go.Proofs.YtdjfiebpnmieoaaGreat.Av
open Tryz
set_option linter.all false
set_option maxRecDepth 4000
set_option maxHeartbeats 4000000
open List renaming length->ln
open Inhabited renaming default->dd
structure Qd where
 j:Int
 p:Int
 f:Int
 t:Int
def q4 (q:Qd):List Int:=[q.j,q.p,q.f,q.t]
def aR (u:List Qd):List Int:=(u.map q4).flatten
def YQ (c:Cf) (f4:Int) (q:Qd):Bool:=decide (q.j<(ln c.js:Int))&&(decide (q.p<((c.js.getD q.j.toNat dd).ph.length:Int))&&CP q.j q.p q.f q.t f4)
def UK (f4:Int) (q:Qd):Lg:=EO q.j q.p q.f q.t f4
def ib (v:Vh):Bool:=decide ((0<=v.id/\v.id<=4294967295)/\(0<=v.cls/\v.cls<=3))
def Er (l:List Rq) (q id u:Int) (v:Vh) (x:List Lg):Int:=if(ln l:Int)<=q then(if ib v=true then NI l q id u x else 1)else 1
def Y5 (l:List Rq) (q id u f4:Int) (v:Vh) (x:List Lg):List Rq:=if Er l q id u v x=0 then eE l (fU id v u x f4)else []
def w9 (l:List Rq) (q id:Int) (v:Vh) (u:Int) (x:List Lg) (f4:Int) (hv:bW l) (B:0<=f4) (C:f4<=1073741824):
  zO 355 [zD zX l,iA q,iA id,vE v,iA u,zD yN x,iA f4] [] (.tup [zD zX (Y5 l q id u f4 v x),iA (Er l q id u v x)]) []:=by
 unfold Y5 Er;by_cases A:(ln l:Int)<=q
 .rw[Os A];by_cases hb:(0<=v.id/\v.id<=4294967295)/\(0<=v.cls/\v.cls<=3)
  .have z:ib v=true:=zAd hb;rw[Os z];exact Wn l q id v u x f4 hv A hb.1.1 hb.1.2 hb.2.1 hb.2.2 B C
  .have z:¬ib v=true:=λh=>hb (zD0 h)
   rw[Of z,Of yX];exact vj l q id v u x f4 hv A hb
 .rw[Of A,Of yX];exact wj l q id v u x f4 hv A
def E6 (l:List Rq) (q id:Int) (v:Vh) (u:Int) (x:List Lg) (f4:Int) (hv:bW l) (B:0<=f4) (C:f4<=1073741824) (hx:ln x<=1000):
  zO 333 [zD zX l,iA q,iA id,vE v,iA u,zD yN x,iA f4] [] (.tup [zD zX (Y5 l q id u f4 v x),iA (Er l q id u v x)]) []:=by
 unfold Y5 Er;by_cases A:(ln l:Int)<=q
 .rw[Os A];by_cases hb:(0<=v.id/\v.id<=4294967295)/\(0<=v.cls/\v.cls<=3)
  .have z:ib v=true:=zAd hb;rw[Os z];exact ui l q id v u x f4 hv A hb.1.1 hb.1.2 hb.2.1 hb.2.2 B C hx
  .have z:¬ib v=true:=λh=>hb (zD0 h)
   rw[Of z,Of yX];exact Ue l q id v u x f4 hv A hb
 .rw[Of A,Of yX];exact Xe l q id v u x f4 hv A
theorem QW:∀u:List Qd,(aR u).length=4*ln u
 | []=>rfl
 |x::l=>by
  have:=QW l
  show(x.j::x.p::x.f::x.t::aR l).length=_
  simp only[zAm];omega
theorem iv (a b:List Qd):aR (a++b)=aR a++aR b:=by simp[aR]
def Zb (x y z:Int) (ga post:List Qd) (i:Nat) (hi:ln ga=i):(x::y::z::aR (ga++post)).drop (3+4*i)=aR post:=by grind [aR,iv,QW,List.drop_of_length_le]
def VY {α:Type} {l:List α} {n:Nat} {r:List α} (h:l.drop n=r) (k:Nat):l[n+k]? =r[k]? :=by rw[<-h,zCt]
def D6 (x y z:Int) (ga post:List Qd) (q:Qd) (I:Int) (u:I=3+4*(ln ga:Int)):
  ((x::y::z::aR (ga++q::post)).map iA)[I.toNat]? =some (iA q.j)/\((x::y::z::aR (ga++q::post)).map iA)[(I+1).toNat]? =some (iA q.p)/\((x::y::z::aR (ga++q::post)).map iA)[(I+2).toNat]? =some (iA q.f)/\((x::y::z::aR (ga++q::post)).map iA)[(I+3).toNat]? =some (iA q.t):=by
 have h:=Zb x y z ga (q::post) (ln ga) Z
 refine⟨?_,?_,?_,?_⟩<;>rw[zAi]
 .rw[show I.toNat=3+4*ln ga+0 by omega,VY h];rfl
 .rw[show(I+1).toNat=3+4*ln ga+1 by omega,VY h];rfl
 .rw[show(I+2).toNat=3+4*ln ga+2 by omega,VY h];rfl
 .rw[show(I+3).toNat=3+4*ln ga+3 by omega,VY h];rfl
def W2 (x y z:Int) (ga post:List Qd) (q:Qd) (I:Int) (u:I=3+4*(ln ga:Int)):
  (((x::y::z::aR (ga++q::post)).map iA).drop I.toNat).take ((I+4).toNat-I.toNat)=[iA q.j,iA q.p,iA q.f,iA q.t]:=by
 have h:=Zb x y z ga (q::post) (ln ga) Z;rw[<-zC4,show I.toNat=3+4*ln ga by omega,h,show(I+4).toNat-(3+4*ln ga)=4 by omega];rfl
def Yb (c:Cf) (d:xP) (z id v u f4:Int) (A:List Qd):Int:=
 if UM d.rg.vh v=true then(if z<(cO d.rg.vh v).cls then 17 else if A.all (YQ c f4)=true then Er d.rq d.rg.ag.req id u (cO d.rg.vh v) (A.map (UK f4))else 8)else 12
def Vp (c:Cf) (d:xP) (z id v u f4:Int) (A:List Qd):List Rq:=
 if Yb c d z id v u f4 A=0 then eE d.rq (fU id (cO d.rg.vh v) u (A.map (UK f4)) f4)else []
def Up {α:Type} {p:α->Bool} {ga post:List α} {x:α} (h:p x=false):¬(ga++x::post).all p=true:=by
 simp[h]
theorem Ai (c:Cf) (d:xP) (id v u E f4:Int) (C:List Qd) (hb:cN d) (hv:bW d.rq) (s0:0<=E) (s1:E<(ln d.rg.tk:Int)) (hq:ln C<=3) (hp:∀q∈C,0<=q.j/\0<=q.p) (n0:0<=f4) (n1:f4<=1073741824):
  zO 308 [wO c,zK d,zD iA (id::v::u::aR C),iA E,iA f4] [] (.tup [zD zX (Vp c d (d.rg.tk.getD E.toNat dd).cls id v u f4 C),iA (Yb c d (d.rg.tk.getD E.toNat dd).cls id v u f4 C)]) []:=by
 have G:=Tv d.rg.vh v (by have:=hb.rg.v;omega);have a5:=zA yP d.rg.tk;have av:=yF yP d.rg.tk E s0 s1;have O:=w9 d.rq d.rg.ag.req id (cO d.rg.vh v) u (C.map (UK f4)) f4 hv n0 n1;have a3:((id::v::u::aR C).map iA).length=3+4*ln C:=by simp[QW];omega
 have a2:=zA wD c.js;have a6:=hb.rg.tk.n;unfold Vp Yb;unfold wO zK xC;generalize (d.rg.tk.getD E.toNat dd)=t at *;rw[show yP t= .agg [bA t.used,zD yA t.sec,iA t.par,iA t.rights,iA t.cls,iA t.til]from Z]at av;generalize UM d.rg.vh v=ap at*
 cases ap with
 |false=>
  rw[Of zAp,Of yX];refine eM call308 λF hF=>?_
  exact lk G
 |true=>
 rw[Os Z];generalize cO d.rg.vh v=vh at *;unfold vE at G O;by_cases R:t.cls<vh.cls
 .rw[Os R,Of yX];refine eM call308 λF hF=>?_
  exact lk G
 rw[Of R];refine eM call308 λF hF=>?_
 refine zQ G ?_;refine zS 15 1001 5 Z Z Z ?_;refine gE (ln C) [1001,5,6,12] [5,6,12] [2,4,5,6,12] [15,16,2,4,5,6,12] Z (λzn T U zs=>∃(ga:List Qd) (post:List Qd),(C=ga++post/\zn=ln post/\ga.all (YQ c f4)=true)/\zs=⟨(15,.ref 1001 0 (ga.map λq=>yN (UK f4 q)).length)::(16,iA (3+4*(ln ga:Int)))::T,(1001,.arr 5 (ga.map λq=>yN (UK f4 q)) true)::U⟩) ?_;(conv=>whnf);refine⟨?_,?_⟩
 .exact⟨[],C,⟨rfl,rfl,rfl⟩,rfl⟩
 .rintro zn st ⟨ga,post,⟨hqs,hzn,hok⟩,rfl⟩;have V:ln C=ln ga+ln post:=by rw[hqs,zAh]
  have a7:=zA (λq=>yN (UK f4 q)) ga
  cases post with
  |nil=>
   rw[zA2]at hqs;subst hqs;rw[Os hok];rw[zBh]at V hzn;have e1:(C.map λq=>yN (UK f4 q))=(C.map (UK f4)).map yN:=by rw[zEf];rfl
   unfold Y5 at O;rw[e1]at *; generalize C.map (UK f4)=ls at *;generalize Er d.rq d.rg.ag.req id u vh ls=e at *;generalize eE d.rq (fU id vh u ls f4)=il at *;generalize hI:3+4*(ln C:Int)=I at *;rw[show(id::v::u::aR C).map iA=iA id::iA v::iA u::(aR C).map iA from Z]at *; generalize (aR C).map iA=A at *;refine WD ?_;refine wJ [5,6,12] [2,4,5,6,12,15] Z ?_
   (conv=>whnf)
   simp only[zAu,zAb];exact lk O
  | cons q post=>
   have ac:=hp q (by rw[hqs];simp);obtain⟨y0,y1,y2,y3⟩:=D6 id v u ga post q _ Z;rw[<-hqs]at y0 y1 y2 y3;rw[zAm]at V hzn;have B:YQ c f4 q=false->¬C.all (YQ c f4)=true:=λh=>by rw[hqs];exact Up h
   have z:YQ c f4 q=true->(ga++[q]).all (YQ c f4)=true:=λh=>by rw[List.all_append,hok,zFi,h];rfl
   have L:((ga++[q]).map λq=>yN (UK f4 q))=(ga.map λq=>yN (UK f4 q))++[yN (UK f4 q)]:=by simp
   have M:=vg q.j q.p q.f q.t f4;rw[show YQ c f4 q=(decide (q.j<(ln c.js:Int))&&(decide (q.p<((c.js.getD q.j.toNat dd).ph.length:Int))&&CP q.j q.p q.f q.t f4))from Z]at B z;generalize hA:(id::v::u::aR C).map iA=A at *;have ax:zD iA (id::v::u::aR C)= .sl false A:=by rw[<-hA];rfl
   have hI:0<=3+4*(ln ga:Int)/\3+4*(ln ga:Int)+4=3+4*((ga++[q]).length:Int)/\3+4*(ln ga:Int)+3<ln A:=⟨zB,by simp;omega,zB⟩;by_cases W:q.j<(ln c.js:Int)
   case neg=>
    rw[zAc W]at B;rw[Of (B Z),Of yX];generalize 3+4*(ln ga:Int)=I at *;clear B z M L hqs;exact lc
   have au:=yF wD c.js q.j ac.1 W;rw[zAd W]at B z;rw[show wD (c.js.getD q.j.toNat dd)= .agg [zD xQ (c.js.getD q.j.toNat dd).ph,zD iA (c.js.getD q.j.toNat dd).cf,iA (c.js.getD q.j.toNat dd).st]from Z]at au;generalize c.js.getD q.j.toNat dd=jn at *;have a4:=zA xQ jn.ph;by_cases g2:q.p<(ln jn.ph:Int)
   case neg=>
    rw[zAc g2]at B;rw[Of (B Z),Of yX];generalize 3+4*(ln ga:Int)=I at *;clear B z M L hqs;exact lc
   rw[zAd g2]at B z
   cases g3:CP q.j q.p q.f q.t f4 with
   |false=>
    rw[g3]at B M;rw[Of zAp]at M;rw[Of (B Z),Of yX];generalize 3+4*(ln ga:Int)=I at *;generalize EO q.j q.p q.f q.t f4=lg at *;clear B z L hqs;exact lk M
   |true=>
    rw[g3]at z M;rw[Os Z]at M;have ar:=z Z;obtain⟨az,Y,a1⟩:=hI;have S:C=(ga++[q])++post:=by rw[hqs];simp
    rw[show EO q.j q.p q.f q.t f4=UK f4 q from Z]at M;generalize UK f4 q=lg at *;clear B z hqs;generalize a8:ga++[q]=pq at *;generalize (ga.map λq=>yN (UK f4 q))=xs at *;generalize 3+4*(ln ga:Int)=I at *;refine zQ M ?_;exact⟨ln post,zB,pq,post,⟨S,rfl,ar⟩,by rw[L,<-Y];rfl⟩
def Hg (d:xP) (l:List Rq):xP:=⟨d.rg,l,d.dr,d.au⟩
theorem oe (c:Cf) (d:xP) (k:Int) (R:List Int) (id v u G f4:Int) (C:List Qd) (hb:cN d) (hv:bW d.rq) (hq:ln C<=3) (hp:∀q∈C,0<=q.j/\0<=q.p) (n0:0<=f4) (n1:f4<=1073741824):
  zO 284 [wO c,zK d,yC ⟨k,R,id::v::u::aR C,[]⟩,iA G,iA f4] [] (.tup [zK (Hg d (if Yb c d G id v u f4 C=0 then Vp c d G id v u f4 C else d.rq)),iA (Yb c d G id v u f4 C)]) []:=by
 have L:=Dg d.rg.vh v (by have:=hb.rg.v;omega);have E:=E6 d.rq d.rg.ag.req id (cO d.rg.vh v) u (C.map (UK f4)) f4 hv n0 n1 (by rw[zAa];omega);have a4:((id::v::u::aR C).map iA).length=3+4*ln C:=by simp[QW];omega
 have a3:=zA wD c.js;unfold Vp Yb Hg;unfold wO zK xC;rw[show yC ⟨k,R,id::v::u::aR C,[]⟩= .agg [iA k,zD yA R,zD iA (id::v::u::aR C),.sl false []]from Z];generalize UM d.rg.vh v=au at*
 cases au with
 |false=>
  rw[Of zAp,Of yX];refine eM call284 λF hF=>?_
  exact lk L
 |true=>
 rw[Os Z];generalize cO d.rg.vh v=vh at *;unfold vE at L E;by_cases S:G<vh.cls
 .rw[Os S,Of yX];refine eM call284 λF hF=>?_
  exact lk L
 rw[Of S];refine eM call284 λF hF=>?_
 refine zQ L ?_;refine zS 14 1001 5 Z Z Z ?_;refine gE (ln C) [1001,5,6,7,12,10] [5,6,7,12,10] [4,5,6,7,10,12] [14,15,4,5,6,7,10,12] Z (λzn T U zs=>∃(ga:List Qd) (post:List Qd),(C=ga++post/\zn=ln post/\ga.all (YQ c f4)=true)/\zs=⟨(14,.ref 1001 0 (ga.map λq=>yN (UK f4 q)).length)::(15,iA (3+4*(ln ga:Int)))::T,(1001,.arr 5 (ga.map λq=>yN (UK f4 q)) true)::U⟩) ?_;(conv=>whnf);refine⟨?_,?_⟩
 .exact⟨[],C,⟨rfl,rfl,rfl⟩,rfl⟩
 .rintro zn st ⟨ga,post,⟨hqs,hzn,hok⟩,rfl⟩;have W:ln C=ln ga+ln post:=by rw[hqs,zAh]
  have a6:=zA (λq=>yN (UK f4 q)) ga
  cases post with
  |nil=>
   rw[zA2]at hqs;subst hqs;rw[Os hok];rw[zBh]at W hzn;have e1:(C.map λq=>yN (UK f4 q))=(C.map (UK f4)).map yN:=by rw[zEf];rfl
   unfold Y5 at E;rw[e1]at *; generalize C.map (UK f4)=ls at *;generalize Er d.rq d.rg.ag.req id u vh ls=e at *;generalize eE d.rq (fU id vh u ls f4)=il at *;generalize hI:3+4*(ln C:Int)=I at *;rw[show(id::v::u::aR C).map iA=iA id::iA v::iA u::(aR C).map iA from Z]at *; generalize (aR C).map iA=A at *;refine WD ?_;refine wJ [5,6,7,10,12] [4,5,6,7,10,12,14] Z ?_
   (conv=>whnf)
   simp only[zAu,zAb];by_cases he:e=0
   .subst he;rw[Os Z]at E⊢;exact lk E
   .rw[Of he]at E⊢;exact lk E
  | cons q post=>
   have ap:=hp q (by rw[hqs];simp);have ar:=W2 id v u ga post q _ Z;rw[<-hqs]at ar;rw[zAm]at W hzn;have z:YQ c f4 q=false->¬C.all (YQ c f4)=true:=λh=>by rw[hqs];exact Up h
   have B:YQ c f4 q=true->(ga++[q]).all (YQ c f4)=true:=λh=>by rw[List.all_append,hok,zFi,h];rfl
   have M:((ga++[q]).map λq=>yN (UK f4 q))=(ga.map λq=>yN (UK f4 q))++[yN (UK f4 q)]:=by simp
   have O:=ma q.j q.p q.f q.t f4;rw[show YQ c f4 q=(decide (q.j<(ln c.js:Int))&&(decide (q.p<((c.js.getD q.j.toNat dd).ph.length:Int))&&CP q.j q.p q.f q.t f4))from Z]at z B;have a2:(id::v::u::aR C).length=3+4*ln C:=by simp[QW];omega
   generalize hA:id::v::u::aR C=A at *;have hI:0<=3+4*(ln ga:Int)/\3+4*(ln ga:Int)+4=3+4*((ga++[q]).length:Int)/\3+4*(ln ga:Int)+4<=ln A:=⟨zB,by simp;omega,zB⟩
   cases g3:CP q.j q.p q.f q.t f4 with
   |false=>
    rw[g3]at z O;rw[zCa,zCa]at z;rw[Of zAp]at O;rw[Of (z Z),Of yX];generalize 3+4*(ln ga:Int)=I at *;generalize EO q.j q.p q.f q.t f4=lg at *;clear z B M hqs;exact lk O
   |true=>
   rw[g3]at B O z;rw[Os Z]at O;by_cases Y:q.j<(ln c.js:Int)
   case neg=>
    rw[zAc Y]at z;rw[Of (z Z),Of yX];generalize 3+4*(ln ga:Int)=I at *;generalize EO q.j q.p q.f q.t f4=lg at *;clear z B M hqs;exact lk O
   have ax:=yF wD c.js q.j ap.1 Y;rw[zAd Y]at z B;rw[show wD (c.js.getD q.j.toNat dd)= .agg [zD xQ (c.js.getD q.j.toNat dd).ph,zD iA (c.js.getD q.j.toNat dd).cf,iA (c.js.getD q.j.toNat dd).st]from Z]at ax;generalize c.js.getD q.j.toNat dd=jn at *;have a5:=zA xQ jn.ph;by_cases g2:q.p<(ln jn.ph:Int)
   case neg=>
    rw[zAc g2]at z;rw[Of (z Z),Of yX];generalize 3+4*(ln ga:Int)=I at *;generalize EO q.j q.p q.f q.t f4=lg at *;clear z B M hqs;exact lk O
   rw[zAd g2]at B;have av:=B Z;obtain⟨az,ac,a1⟩:=hI;have V:C=(ga++[q])++post:=by rw[hqs];simp
   rw[show EO q.j q.p q.f q.t f4=UK f4 q from Z]at O;generalize UK f4 q=lg at *;clear z B hqs;generalize a7:ga++[q]=pq at *;generalize (ga.map λq=>yN (UK f4 q))=xs at *;generalize 3+4*(ln ga:Int)=I at *;refine zQ O ?_;exact⟨ln post,zB,pq,post,⟨V,rfl,av⟩,by rw[M,<-ac];rfl⟩
def QX (n:Int) (a:Ag) (N:Nat):xP:=⟨NT n a,[],[],List.replicate N false⟩
def V2 (n:Int) (a:Ag) (N:Nat) (hN:N=1\/N=2) (A:a.ses=(N:Int)) (hs:ln a.sec<=1000000) (hl:ln a.lim<=1000000):zO 33 [iA n,vX a] [] (zK (QX n a N)) []:=by
 have z:=W3 n a hs hl;unfold QX;obtain⟨u,I,C,E,L,M,G,B⟩:=a;dsimp only at A;subst A;unfold vX qD at z;unfold vX zK xC;dsimp only at *;generalize NT n ⟨u,I,C,E,L,(N:Int),G,B⟩=r at*
 rcases hN with rfl|rfl
 all_goals
  refine eM call33 λF hF=>?_
  exact lk z
def Zv (n:Int) (a:Ag) (N:Nat) (hN:N=1\/N=2) (A:a.ses=(N:Int)) (hs:ln a.sec<=1000000) (hl:ln a.lim<=1000000):zO 39 [iA n,vX a] [] (zK (QX n a N)) []:=by
 have z:=Mv n a hs hl;unfold QX;obtain⟨u,I,C,E,L,M,G,B⟩:=a;dsimp only at A;subst A;unfold vX qD at z;unfold vX zK xC;dsimp only at *;generalize NT n ⟨u,I,C,E,L,(N:Int),G,B⟩=r at*
 rcases hN with rfl|rfl
 all_goals
  refine eM call39 λF hF=>?_
  exact lk z
def w2 (p:Int×Int):List Int:=[p.1,p.2]
def PF (u:List (Int×Int)):List Int:=(u.map w2).flatten
theorem MW:∀u:List (Int×Int),(PF u).length=2*ln u
 | []=>rfl
 |x::l=>by
  have:=MW l
  show(x.1::x.2::PF l).length=_
  simp only[zAm];omega
theorem Yv (a b:List (Int×Int)):PF (a++b)=PF a++PF b:=by simp[PF]
def uy (x:Int) (ga post:List (Int×Int)) (q:Int×Int) (I:Int) (u:I=1+2*(ln ga:Int)):
  ((x::PF (ga++q::post)).map iA)[I.toNat]? =some (iA q.1)/\((x::PF (ga++q::post)).map iA)[(I+1).toNat]? =some (iA q.2):=by
 have h:(x::PF (ga++q::post)).drop (1+2*ln ga)=PF (q::post):=by
  grind [PF,iA,Yv,MW,List.drop_of_length_le]
 refine⟨?_,?_⟩<;>rw[zAi]
 .rw[show I.toNat=1+2*ln ga+0 by omega,VY h];rfl
 .rw[show(I+1).toNat=1+2*ln ga+1 by omega,VY h];rfl
def jy (l:List Rq) (id:Int) (u:List (Int×Int)) (f4:Int):List Rq:=if dD l id u f4=0 then XU l id u f4 else []
def U2 (c:Cf) (d:xP) (z:List Int) (id E f4:Int) (u:List (Int×Int)) (hv:bW d.rq) (hw:ln u<=3) (n0:0<=f4) (n1:f4<=1073741824):
  zO 259 [wO c,zK d,yC ⟨7,z,id::PF u,[]⟩,iA E,iA f4] [] (.tup [zD zX (jy d.rq id u f4),iA (dD d.rq id u f4)]) []:=by
 have hu:=Em d.rq id u f4 hv zB n0 n1;have V:((id::PF u).map iA).length=1+2*ln u:=by simp[MW];omega
 unfold jy;unfold wO zK xC;rw[show yC ⟨7,z,id::PF u,[]⟩= .agg [iA 7,zD yA z,zD iA (id::PF u),.sl false []]from Z];generalize dD d.rq id u f4=e,XU d.rq id u f4=ul at *;refine eM call259 λF hF=>?_
 refine WW ?_;refine zS 13 1001 2 Z Z Z ?_;refine gE (ln u) [1001,6,7] [6,7] [4,6,7,12] [13,14,4,6,7,12] Z (λO T U zs=>∃(ga:List (Int×Int)) (post:List (Int×Int)),(u=ga++post/\O=ln post)/\zs=⟨(13,.ref 1001 0 (ga.map NH).length)::(14,iA (1+2*(ln ga:Int)))::T,(1001,.arr 2 (ga.map NH) true)::U⟩) ?_;(conv=>whnf);refine⟨?_,?_⟩
 .exact⟨[],u,⟨rfl,rfl⟩,rfl⟩
 .rintro O st ⟨ga,post,⟨hqs,hzn⟩,rfl⟩;have C:ln u=ln ga+ln post:=by rw[hqs,zAh]
  have W:=zA NH ga
  cases post with
  |nil=>
   rw[zA2]at hqs;subst hqs;rw[zBh]at C hzn;generalize M:1+2*(ln u:Int)=I at *;generalize (id::PF u).map iA=A at*
   (have gd:=hu;have kh:=(⟨⟩:Z1 309 [5,6,7] [58,59,60,61]);refine WW ?_;clear gd kh)
   exact zI
  |cons q post=>
   obtain⟨y0,y1⟩:=uy id ga post q _ Z;rw[<-hqs]at y0 y1;rw[zAm]at C hzn;have L:((ga++[q]).map NH)=ga.map NH++[.agg [iA q.1,iA q.2]]:=by simp[NH]
   have M:0<=1+2*(ln ga:Int)/\1+2*(ln ga:Int)+2=1+2*((ga++[q]).length:Int)/\1+2*(ln ga:Int)+1<((id::PF u).map iA).length:=⟨zB,by simp;omega,zB⟩;have B:u=(ga++[q])++post:=by rw[hqs];simp
   generalize (id::PF u).map iA=A at *;obtain⟨R,G,S⟩:=M;clear hqs;generalize Y:ga++[q]=pq at *;generalize ga.map NH=xs at *;generalize 1+2*(ln ga:Int)=I at *;refine WW ?_;exact⟨ln post,zB,pq,post,⟨B,rfl⟩,by rw[L,<-G];rfl⟩
def S2 (d:xP) (z:List Int) (id f4:Int) (u:List (Int×Int)) (hv:bW d.rq) (hw:ln u<=3) (n0:0<=f4) (n1:f4<=1073741824):
  zO 285 [zK d,yC ⟨7,z,id::PF u,[]⟩,iA f4] [] (.tup [zK (Hg d (if dD d.rq id u f4=0 then jy d.rq id u f4 else d.rq)),iA (dD d.rq id u f4)]) []:=by
 have E:=qi d.rq id u f4 hv zB n0 n1;have W:((id::PF u).map iA).length=1+2*ln u:=by simp[MW];omega
 unfold jy Hg;unfold zK xC;rw[show yC ⟨7,z,id::PF u,[]⟩= .agg [iA 7,zD yA z,zD iA (id::PF u),.sl false []]from Z];generalize dD d.rq id u f4=e,XU d.rq id u f4=ul at *;refine eM call285 λF hF=>?_
 refine WW ?_;refine zS 8 1001 2 Z Z Z ?_;refine gE (ln u) [1001,3,4,6] [3,4,6] [2,3,4,6] [8,9,2,3,4,6] Z (λR T U zs=>∃(ga:List (Int×Int)) (post:List (Int×Int)),(u=ga++post/\R=ln post)/\zs=⟨(8,.ref 1001 0 (ga.map NH).length)::(9,iA (1+2*(ln ga:Int)))::T,(1001,.arr 2 (ga.map NH) true)::U⟩) ?_;(conv=>whnf);refine⟨?_,?_⟩
 .exact⟨[],u,⟨rfl,rfl⟩,rfl⟩
 .rintro R st ⟨ga,post,⟨hqs,hzn⟩,rfl⟩;have C:ln u=ln ga+ln post:=by rw[hqs,zAh]
  have Y:=zA NH ga
  cases post with
  |nil=>
   rw[zA2]at hqs;subst hqs;rw[zBh]at C hzn;generalize M:1+2*(ln u:Int)=I at *;rw[show(id::PF u).map iA=iA id::(PF u).map iA from Z]at *; generalize (PF u).map iA=A at *;refine WD ?_;refine wJ [3,4,6] [2,3,4,6,8] Z ?_
   (conv=>whnf)
   simp only[zAu,zAb];by_cases O:e=0
   .subst O;rw[Os Z]at E⊢;exact lk E
   .rw[Of O]at E⊢;exact lk E
  |cons q post=>
   obtain⟨y0,y1⟩:=uy id ga post q _ Z;rw[<-hqs]at y0 y1;rw[zAm]at C hzn;have L:((ga++[q]).map NH)=ga.map NH++[.agg [iA q.1,iA q.2]]:=by simp[NH]
   have M:0<=1+2*(ln ga:Int)/\1+2*(ln ga:Int)+2=1+2*((ga++[q]).length:Int)/\1+2*(ln ga:Int)+1<((id::PF u).map iA).length:=⟨zB,by simp;omega,zB⟩;have B:u=(ga++[q])++post:=by rw[hqs];simp
   generalize (id::PF u).map iA=A at *;obtain⟨S,G,V⟩:=M;clear hqs;generalize ac:ga++[q]=pq at *;generalize ga.map NH=xs at *;generalize 1+2*(ln ga:Int)=I at *;refine WW ?_;exact⟨ln post,zB,pq,post,⟨B,rfl⟩,by rw[L,<-G];rfl⟩
def P2 (c:Cf) (d:xP) (C:List Int) (id v u z f4:Int) (B:List Qd) (hb:cN d) (hv:bW d.rq) (M:0<=z) (O:z<(ln d.rg.tk:Int)) (G:ln B<=3) (E:∀q∈B,0<=q.j/\0<=q.p) (I:0<=f4) (L:f4<=1073741824):
  zO 259 [wO c,zK d,yC ⟨6,C,id::v::u::aR B,[]⟩,iA z,iA f4] [] (.tup [zD zX (Vp c d (d.rg.tk.getD z.toNat dd).cls id v u f4 B),iA (Yb c d (d.rg.tk.getD z.toNat dd).cls id v u f4 B)]) []:=by
 have h:=Ai c d id v u z f4 B hb hv M O G E I L;generalize Yb c d (d.rg.tk.getD z.toNat dd).cls id v u f4 B=e,Vp c d (d.rg.tk.getD z.toNat dd).cls id v u f4 B=R at *;rw[show zD iA (id::v::u::aR B)= .sl false (iA id::iA v::iA u::(aR B).map iA)from Z]at h;rw[show yC ⟨6,C,id::v::u::aR B,[]⟩= .agg [iA 6,zD yA C,.sl false (iA id::iA v::iA u::(aR B).map iA),.sl false []]from Z];generalize (aR B).map iA=A at *;unfold wO zK xC at *;refine eM call259 λF hF=>?_
 exact lk h
def O2 (c:Cf) (d:xP) (u:List Int) (id z f4:Int) (hv:bW d.rq):
  zO 259 [wO c,zK d,yC ⟨8,u,[id],[]⟩,iA z,iA f4] [] (.tup [zD zX (if jF d.rq id=true then QB d.rq id else []),iA (if jF d.rq id=true then 0 else 12)]) []:=by
 have h:=bn d.rq id hv;generalize (if jF d.rq id=true then QB d.rq id else [])=l,(if jF d.rq id=true then(0:Int)else 12)=e at *;rw[show yC ⟨8,u,[id],[]⟩= .agg [iA 8,zD yA u,.sl false [iA id],.sl false []]from Z];unfold wO zK xC at *;refine eM call259 λF hF=>?_
 exact lk h
def QY (l:List Tk) (s:Int):zO 346 [zD yP l,iA s] [] (bA (gU l s)) []:=by
 have hl:=zA yP l;unfold gU;by_cases h1:0<=s
 .by_cases h2:s<ln l
  .have u:=yF yP l s h1 h2;rw[zAd ⟨h1,h2⟩,zAo];refine eM call346 λF hF=>?_
   exact lc
  .rw[zAc zB,zA7];refine eM call346 λF hF=>?_
   exact lc
 .rw[zAc zB,zA7];refine eM call346 λF hF=>?_
  exact lc
def Tp (g s:Int) (l:List Int) (hl:ln l<=1000000) (z:0<=g) (A:g<256) (B:0<=s) (C:s<256):zO 385 [iA g,iA s,zD yA l] [] (zD yA (g::s::l)) []:=by
 have u:=zA yA l;refine eM call385 λF hF=>?_
 refine WW ?_;exact zH [] Z Z (zAv (AV.sl false) (zAj zW)) Z
def u9 (n:Int) (h:0<=n):vO n 7=n/128:=by grind [vO]
def P7:Nat->Int
 |0=>1
 |z+1=>128*P7 z
def X5 (n:Int):Int:=IntKind.u8.wrap ((BitVec.ofInt IntKind.u8.bits (IntKind.u8.wrap (jZ n 127)) ||| BitVec.ofInt IntKind.u8.bits 128).toNat)
def Qj:Nat->Int->List Int
 |0,n=>[n]
 |z+1,n=>if 128<=n then X5 n::Qj z (n/128)else [n]
theorem DM:∀z n,(Qj z n).length<=z+1
 |0,n=>zAg _
 |z+1,n=>by
  unfold Qj;split
  .have:=DM z (n/128);simp only[zAm];omega
  .simp
def Xv (z:Nat) (n:Int) (h:n<128):Qj z n=[n]:=by
 cases z with
 |zero=>rfl
 |succ z=>unfold Qj;rw[Of zB]
def OD (n:Int):List Int:=if 0<=n/\n<=4294967295 then Qj 5 n else []
def Sp (n:Int):Int:=if 0<=n/\n<=4294967295 then 0 else 8
theorem YR (n:Int):(OD n).length<=6:=by grind [OD,DM]
def DN (n:Int):zO 229 [iA n] [] (.tup [zD yA (OD n),iA (Sp n)]) []:=by
 unfold OD Sp;by_cases h1:0<=n
 case neg=>
  rw[Of (λh=>h1 h.1),Of (λh=>h1 h.1)];refine eM call229 λF hF=>?_
  exact lc
 by_cases h2:n<=4294967295
 case neg=>
  rw[Of (λh=>h2 h.2),Of (λh=>h2 h.2)];refine eM call229 λF hF=>?_
  exact lc
 rw[Os ⟨h1,h2⟩,Os ⟨h1,h2⟩];refine eM call229 λF hF=>?_
 refine WW ?_;refine uG 11 Z ?_;refine gE (5) [11] [] [] [0,4] Z (λA T U R=>∃(u:List Int) (x:Int),(0<=x/\x<P7 A*128/\u++Qj A x=Qj 5 n/\u.length<=100)/\R=⟨(0,iA x)::(4,.ref 11 0 (u.map yA).length)::T,(11,.arr 1 (u.map yA) true)::U⟩) ?_;(conv=>whnf);refine⟨?_,?_⟩
 .exact⟨[],n,⟨h1,by show n<34359738368*128;omega,rfl,by simp⟩,rfl⟩
 .rintro A st ⟨u,x,⟨b1,b2,b3,b4⟩,rfl⟩;have O:=zA yA u;by_cases hx:128<=x
  .have V:A≠0:=λe=>by
    subst e;have:P7 0=1:=rfl;omega
   obtain⟨z,rfl⟩:∃z,A=z+1:=⟨A-1,zB⟩;have e:=u9 x b1;have L:P7 (z+1)=128*P7 z:=rfl
   have I:Qj (z+1) x=X5 x::Qj z (x/128):=by
    show(if 128<=x then _ else _)=_
    rw[Os hx]
   rw[I]at b3;have G:(u++[X5 x]).map yA=u.map yA++[yA (X5 x)]:=by simp
   have C:u++[X5 x]++Qj z (vO x 7)=Qj 5 n:=by rw[e,zA0];exact b3
   have B:0<=vO x 7/\vO x 7<P7 z*128:=by rw[e];rw[L]at b2;omega
   have E:ln u+1<=100:=by
    have M:=zAv List.length b3;have S:=DM 5 n;simp only[zAh,zAm]at M;omega
   clear I b3 L
   (repeat' (first|refine uD ?_|apply yZ|apply xM|intro hc|(apply zG;first|(apply xZ;refine yE (EV Z Z) Z ?_))|fail))
   exact⟨z,zB,u++[X5 x],vO x 7,⟨B.1,B.2,C,by simpa using E⟩,by rw[G];rfl⟩
  .rw[Xv A x zB]at b3;rw[<-b3];have G:zD yA (u++[x])= .sl false ((u.map yA++[yA (x)]).take (u.map yA++[yA (x)]).length):=by rw[zAb];unfold zD;rw[zAf];rfl
   rw[G];exact lc
structure gy where
 t:Int
 f:Int
 g:Int
 lo:Int
 hi:Int
 da:Int
def UL (s:gy):AV:= .agg [iA s.t,iA s.f,iA s.g,iA s.lo,iA s.hi,iA s.da]
structure j9 (k:Int) (s:gy) (ok:Bool):Prop where
 t:0<=s.t/\s.t<=10
 f:0<=s.f/\s.f<=4
 g:s.g=0\/s.g=2\/s.g=3\/s.g=4
 da: -1<=s.da/\s.da<=10
 k2:k=2->s=⟨10,3,0,0,0,0⟩/\ok=true
 k3:k=3->s=⟨10,1,0,0,0,0⟩/\ok=true
 k4:k=4->s=⟨10,2,0,0,0,0⟩/\ok=true
 k5:k=5->s=⟨10,1,0,0,0,0⟩/\ok=true
theorem Wv (k:Int):∃(s:gy) (Y:Bool),j9 k s Y/\zO 227 [iA k] [] (.tup [UL s,bA Y]) []:=by
 by_cases h1:k=1
 .subst h1;refine⟨⟨10,0,0,0,0,0⟩,true,⟨by decide,by decide,by decide,by decide,λh=>absurd h zB,λh=>absurd h zB,λh=>absurd h zB,λh=>absurd h zB⟩,?_⟩;unfold UL;refine eM call227 λF hF=>?_
  exact lc
 by_cases h2:k=2
 .subst h2;refine⟨⟨10,3,0,0,0,0⟩,true,⟨by decide,by decide,by decide,by decide,λ_=>⟨rfl,rfl⟩,λh=>absurd h zB,λh=>absurd h zB,λh=>absurd h zB⟩,?_⟩;unfold UL;refine eM call227 λF hF=>?_
  exact lc
 by_cases U:k=3
 .subst U;refine⟨⟨10,1,0,0,0,0⟩,true,⟨by decide,by decide,by decide,by decide,λh=>absurd h zB,λ_=>⟨rfl,rfl⟩,λh=>absurd h zB,λh=>absurd h zB⟩,?_⟩;unfold UL;refine eM call227 λF hF=>?_
  exact lc
 by_cases V:k=4
 .subst V;refine⟨⟨10,2,0,0,0,0⟩,true,⟨by decide,by decide,by decide,by decide,λh=>absurd h zB,λh=>absurd h zB,λ_=>⟨rfl,rfl⟩,λh=>absurd h zB⟩,?_⟩;unfold UL;refine eM call227 λF hF=>?_
  exact lc
 by_cases W:k=5
 .subst W;refine⟨⟨10,1,0,0,0,0⟩,true,⟨by decide,by decide,by decide,by decide,λh=>absurd h zB,λh=>absurd h zB,λh=>absurd h zB,λ_=>⟨rfl,rfl⟩⟩,?_⟩;unfold UL;refine eM call227 λF hF=>?_
  exact lc
 by_cases h6:k=6
 .subst h6;refine⟨⟨10,3,4,1,3,0⟩,true,⟨by decide,by decide,by decide,by decide,λh=>absurd h zB,λh=>absurd h zB,λh=>absurd h zB,λh=>absurd h zB⟩,?_⟩;unfold UL;refine eM call227 λF hF=>?_
  exact lc
 by_cases h7:k=7
 .subst h7;refine⟨⟨10,1,2,1,3,0⟩,true,⟨by decide,by decide,by decide,by decide,λh=>absurd h zB,λh=>absurd h zB,λh=>absurd h zB,λh=>absurd h zB⟩,?_⟩;unfold UL;refine eM call227 λF hF=>?_
  exact lc
 by_cases h8:k=8
 .subst h8;refine⟨⟨10,1,0,0,0,0⟩,true,⟨by decide,by decide,by decide,by decide,λh=>absurd h zB,λh=>absurd h zB,λh=>absurd h zB,λh=>absurd h zB⟩,?_⟩;unfold UL;refine eM call227 λF hF=>?_
  exact lc
 by_cases h9:k=9
 .subst h9;refine⟨⟨10,0,0,0,0,0⟩,true,⟨by decide,by decide,by decide,by decide,λh=>absurd h zB,λh=>absurd h zB,λh=>absurd h zB,λh=>absurd h zB⟩,?_⟩;unfold UL;refine eM call227 λF hF=>?_
  exact lc
 by_cases u:k=10
 .subst u;refine⟨⟨10,1,0,0,0,0⟩,true,⟨by decide,by decide,by decide,by decide,λh=>absurd h zB,λh=>absurd h zB,λh=>absurd h zB,λh=>absurd h zB⟩,?_⟩;unfold UL;refine eM call227 λF hF=>?_
  exact lc
 by_cases z:k=11
 .subst z;refine⟨⟨10,1,0,0,0,0⟩,true,⟨by decide,by decide,by decide,by decide,λh=>absurd h zB,λh=>absurd h zB,λh=>absurd h zB,λh=>absurd h zB⟩,?_⟩;unfold UL;refine eM call227 λF hF=>?_
  exact lc
 by_cases A:k=12
 .subst A;refine⟨⟨10,0,0,0,0,0⟩,true,⟨by decide,by decide,by decide,by decide,λh=>absurd h zB,λh=>absurd h zB,λh=>absurd h zB,λh=>absurd h zB⟩,?_⟩;unfold UL;refine eM call227 λF hF=>?_
  exact lc
 by_cases B:k=13
 .subst B;refine⟨⟨0,2,0,0,0,0⟩,true,⟨by decide,by decide,by decide,by decide,λh=>absurd h zB,λh=>absurd h zB,λh=>absurd h zB,λh=>absurd h zB⟩,?_⟩;unfold UL;refine eM call227 λF hF=>?_
  exact lc
 by_cases C:k=14
 .subst C;refine⟨⟨0,2,0,0,0,0⟩,true,⟨by decide,by decide,by decide,by decide,λh=>absurd h zB,λh=>absurd h zB,λh=>absurd h zB,λh=>absurd h zB⟩,?_⟩;unfold UL;refine eM call227 λF hF=>?_
  exact lc
 by_cases E:k=15
 .subst E;refine⟨⟨0,2,0,0,0,0⟩,true,⟨by decide,by decide,by decide,by decide,λh=>absurd h zB,λh=>absurd h zB,λh=>absurd h zB,λh=>absurd h zB⟩,?_⟩;unfold UL;refine eM call227 λF hF=>?_
  exact lc
 by_cases G:k=16
 .subst G;refine⟨⟨0,1,0,0,0,10⟩,true,⟨by decide,by decide,by decide,by decide,λh=>absurd h zB,λh=>absurd h zB,λh=>absurd h zB,λh=>absurd h zB⟩,?_⟩;unfold UL;refine eM call227 λF hF=>?_
  exact lc
 by_cases I:k=17
 .subst I;refine⟨⟨0,1,0,0,0,-1⟩,true,⟨by decide,by decide,by decide,by decide,λh=>absurd h zB,λh=>absurd h zB,λh=>absurd h zB,λh=>absurd h zB⟩,?_⟩;unfold UL;refine eM call227 λF hF=>?_
  exact lc
 by_cases L:k=18
 .subst L;refine⟨⟨0,1,3,0,16,0⟩,true,⟨by decide,by decide,by decide,by decide,λh=>absurd h zB,λh=>absurd h zB,λh=>absurd h zB,λh=>absurd h zB⟩,?_⟩;unfold UL;refine eM call227 λF hF=>?_
  exact lc
 by_cases M:k=19
 .subst M;refine⟨⟨0,0,2,0,4,0⟩,true,⟨by decide,by decide,by decide,by decide,λh=>absurd h zB,λh=>absurd h zB,λh=>absurd h zB,λh=>absurd h zB⟩,?_⟩;unfold UL;refine eM call227 λF hF=>?_
  exact lc
 by_cases O:k=20
 .subst O;refine⟨⟨0,4,0,0,0,0⟩,true,⟨by decide,by decide,by decide,by decide,λh=>absurd h zB,λh=>absurd h zB,λh=>absurd h zB,λh=>absurd h zB⟩,?_⟩;unfold UL;refine eM call227 λF hF=>?_
  exact lc
 by_cases R:k=21
 .subst R;refine⟨⟨0,1,0,0,0,-1⟩,true,⟨by decide,by decide,by decide,by decide,λh=>absurd h zB,λh=>absurd h zB,λh=>absurd h zB,λh=>absurd h zB⟩,?_⟩;unfold UL;refine eM call227 λF hF=>?_
  exact lc
 by_cases S:k=22
 .subst S;refine⟨⟨0,1,0,0,0,0⟩,true,⟨by decide,by decide,by decide,by decide,λh=>absurd h zB,λh=>absurd h zB,λh=>absurd h zB,λh=>absurd h zB⟩,?_⟩;unfold UL;refine eM call227 λF hF=>?_
  exact lc
 refine⟨⟨0,0,0,0,0,0⟩,false,⟨by decide,by decide,by decide,by decide,λh=>absurd h h2,λh=>absurd h U,λh=>absurd h V,λh=>absurd h W⟩,?_⟩;unfold UL;refine eM call227 λF hF=>?_
 exact lc
theorem Rp (s:gy) (L:s.g=0\/s.g=2\/s.g=3\/s.g=4) (M:0<=s.f/\s.f<=4) (n:Int) (O:0<=n/\n<=1000000):∃(z:Int) (I:Bool),(-1000000<=z/\z<=1000000)/\(s.g=0->z=0/\I=decide (n=s.f))/\zO 228 [UL s,iA n] [] (.tup [iA z,bA I]) []:=by
 obtain⟨t,f,g,lo,hi,A⟩:=s;dsimp only at *;rw[show UL ⟨t,f,g,lo,hi,A⟩= .agg [iA t,iA f,iA g,iA lo,iA hi,iA A]from Z]
 rcases L with rfl|rfl|rfl|rfl
 .by_cases h:n=f
  .refine⟨0,true,zB,λ_=>⟨rfl,(zAd h).symm⟩,?_⟩;refine eM call228 λF hF=>?_
   exact lc
  .refine⟨0,false,zB,λ_=>⟨rfl,(zAc h).symm⟩,?_⟩;refine eM call228 λF hF=>?_
   exact lc
 .by_cases h1:n-f<0
  .refine⟨0,false,zB,λh=>absurd h yX,?_⟩;refine eM call228 λF hF=>?_
   exact lc
  have hb:0<=(n-f).tdiv 2/\(n-f).tdiv 2<=1000000:=by
   rw[zCe zB];omega
  have G:UJ .i64 ((n-f).tdiv 2):=by
   unfold UJ;have e1:IntKind.i64.min= -9223372036854775808:=by decide
   have B:IntKind.i64.max=9223372036854775807:=by decide
   omega
  by_cases h2:(n-f).tmod 2=0
  case neg=>
   refine⟨0,false,zB,λh=>absurd h yX,?_⟩;refine eM call228 λF hF=>?_
   exact lc
  generalize u:(n-f).tmod 2=m at *;by_cases C:lo<=(n-f).tdiv 2
  case neg=>
   refine⟨(n-f).tdiv 2,false,zB,λh=>absurd h yX,?_⟩;subst u;refine eM call228 λF hF=>?_
   exact lc
  by_cases E:(n-f).tdiv 2<=hi
  .refine⟨(n-f).tdiv 2,true,zB,λh=>absurd h yX,?_⟩;subst u;refine eM call228 λF hF=>?_
   exact lc
  .refine⟨(n-f).tdiv 2,false,zB,λh=>absurd h yX,?_⟩;subst u;refine eM call228 λF hF=>?_
   exact lc
 .by_cases h1:n-f<0
  .refine⟨0,false,zB,λh=>absurd h yX,?_⟩;refine eM call228 λF hF=>?_
   exact lc
  have hb:0<=(n-f).tdiv 3/\(n-f).tdiv 3<=1000000:=by
   rw[zCe zB];omega
  have G:UJ .i64 ((n-f).tdiv 3):=by
   unfold UJ;have e1:IntKind.i64.min= -9223372036854775808:=by decide
   have B:IntKind.i64.max=9223372036854775807:=by decide
   omega
  by_cases h2:(n-f).tmod 3=0
  case neg=>
   refine⟨0,false,zB,λh=>absurd h yX,?_⟩;refine eM call228 λF hF=>?_
   exact lc
  generalize u:(n-f).tmod 3=m at *;by_cases C:lo<=(n-f).tdiv 3
  case neg=>
   refine⟨(n-f).tdiv 3,false,zB,λh=>absurd h yX,?_⟩;subst u;refine eM call228 λF hF=>?_
   exact lc
  by_cases E:(n-f).tdiv 3<=hi
  .refine⟨(n-f).tdiv 3,true,zB,λh=>absurd h yX,?_⟩;subst u;refine eM call228 λF hF=>?_
   exact lc
  .refine⟨(n-f).tdiv 3,false,zB,λh=>absurd h yX,?_⟩;subst u;refine eM call228 λF hF=>?_
   exact lc
 .by_cases h1:n-f<0
  .refine⟨0,false,zB,λh=>absurd h yX,?_⟩;refine eM call228 λF hF=>?_
   exact lc
  have hb:0<=(n-f).tdiv 4/\(n-f).tdiv 4<=1000000:=by
   rw[zCe zB];omega
  have G:UJ .i64 ((n-f).tdiv 4):=by
   unfold UJ;have e1:IntKind.i64.min= -9223372036854775808:=by decide
   have B:IntKind.i64.max=9223372036854775807:=by decide
   omega
  by_cases h2:(n-f).tmod 4=0
  case neg=>
   refine⟨0,false,zB,λh=>absurd h yX,?_⟩;refine eM call228 λF hF=>?_
   exact lc
  generalize u:(n-f).tmod 4=m at *;by_cases C:lo<=(n-f).tdiv 4
  case neg=>
   refine⟨(n-f).tdiv 4,false,zB,λh=>absurd h yX,?_⟩;subst u;refine eM call228 λF hF=>?_
   exact lc
  by_cases E:(n-f).tdiv 4<=hi
  .refine⟨(n-f).tdiv 4,true,zB,λh=>absurd h yX,?_⟩;subst u;refine eM call228 λF hF=>?_
   exact lc
  .refine⟨(n-f).tdiv 4,false,zB,λh=>absurd h yX,?_⟩;subst u;refine eM call228 λF hF=>?_
   exact lc
def OY (l:List Int) (hl:ln l<=1073741824):zO 49 [zD yA l] [] (.ref 1001 0 (l.map yA).length) [(1001,.arr 1 (l.map yA) false)]:=by
 have u:=zA yA l;refine eM call49 λF hF=>?_
 refine xI 0 Z (λcap hx=>?_) ?_
 .have:l=[]:=by simpa using hx
  subst this
  (repeat' (first|refine Md ?_|apply yZ|apply xM|intro hc|fail))
  refine qK 2 1001 1 Z Z Z (xG ?_);exact zP [1001] Z Z Z Z
 .repeat' (first|(apply zG;first|refine wX tok Z Z ?_|(apply xZ;refine yE (yU tok (.inl ⟨rfl,rfl⟩) Z Z Z Z) Z ?_)|(apply yR;refine qB (nw:=[1001]) (yT tok 1001 (xs:=[]) Z Z Z Z Z Z Z Z Z) Z Z Z ?_)|(apply yG;refine xW tok Z Z Z Z Z Z Z (zZ _ _ (λ_=>rfl)) Z Z Z zB Z ?_)|apply uT)|(first|apply xK|apply xF|refine vQ Z ?_|refine yM Z ?_|refine yB Z ?_|refine xU Z (λhc=>?_) λhc=>?_|apply xB|apply xG|apply xJ|apply xE))
  exact zP [1001] Z Z Z Z
def Pj (n:Int):Bool:=decide (0<=n/\n<=4294967295)
def Gg (n:Int):Sp n=if Pj n=true then 0 else 8:=by grind [Sp,Pj]
def Qp (s:gy) (u:Int) (tok args:List Int):Nat->List Int
 |0=>tok
 |i+1=>(if(i:Int)=s.f/\0<s.g then Qp s u tok args i++OD u else Qp s u tok args i)++OD (args.getD i dd)
def C6 (s:gy) (u:Int) (tok args:List Int) (i:Nat):List Int:=if(i:Int)=s.f/\0<s.g then Qp s u tok args i++OD u else Qp s u tok args i
theorem DO (s:gy) (u:Int) (tok args:List Int):∀i,(Qp s u tok args i).length<=ln tok+12*i
 |0=>by show (ln tok)<=_;omega
 |i+1=>by
  have:=DO s u tok args i;have h1:=YR u;have h2:=YR (args.getD i dd);unfold Qp
  split<;>simp only[zAh]<;>omega
def Vv (s:gy) (u:Int) (tok args:List Int) (i:Nat):(C6 s u tok args i).length<=ln tok+12*i+6:=by grind [C6,DO,YR,List.length_append]
theorem Pp (args:List Int):∀n,n<=ln args->(∃k,k<n/\Pj (args.getD k dd)=false/\∀i,i<k->Pj (args.getD i dd)=true)\/(∀i,i<n->Pj (args.getD i dd)=true)
 |0,_=> .inr λi hi=>absurd hi (zB7 _)
 | n+1,z=>by
  rcases Pp args n zB with⟨k,h1,h2,u⟩|h
  .exact .inl ⟨k,zB,h2,u⟩
  .cases hb:Pj (args.getD n dd)with
   |true=>
    refine .inr λi hi=>?_
    by_cases e:i=n
    .subst e;exact hb
    .exact h i zB
   |false=>exact .inl ⟨n,zB,hb,h⟩
structure M2 (m:Ms):Prop where
 t:m.tok.length<=1000
 a:m.args.length<=1000
 d:m.data.length<=1000
theorem Np (m:Ms) (hm:M2 m):∃(xs:List AV) (e:Int),(e=0\/e=6)/\zO 187 [yC m] [] (.tup [.sl false xs,iA e]) []/\(∀f:Nat,(m.kind=2/\f=3)\/(m.kind=3/\f=1)\/(m.kind=4/\f=2)\/(m.kind=5/\f=1)->(e=0↔(ln m.tok=10/\m.data=[]/\m.args.length=f/\∀i,i<f->Pj (m.args.getD i dd)=true))):=by
 obtain⟨s,ok,hs,c1⟩:=Wv m.kind;obtain⟨Y,bl,bs,av,c2⟩:=Rp s hs.g hs.f ((m.args.map iA).length:Int) (by have:=hm.a;simp;omega);have c3:=OY m.tok (by have:=hm.t;omega);have b1:=hm.t;have b2:=hm.a;have b3:=hm.d;have b5:=zA yA m.tok;have bx:=zA iA m.args;have b0:=zA yA m.data
 have hq:∀f:Nat,(m.kind=2/\f=3)\/(m.kind=3/\f=1)\/(m.kind=4/\f=2)\/(m.kind=5/\f=1)->s.t=10/\s.f=f/\s.g=0/\s.da=0/\ok=true:=λf hf=>by
  rcases hf with⟨h,rfl⟩|⟨h,rfl⟩|⟨h,rfl⟩|⟨h,rfl⟩
  .obtain⟨e1,e2⟩:=hs.k2 h;subst e1;exact⟨rfl,rfl,rfl,rfl,e2⟩
  .obtain⟨e1,e2⟩:=hs.k3 h;subst e1;exact⟨rfl,rfl,rfl,rfl,e2⟩
  .obtain⟨e1,e2⟩:=hs.k4 h;subst e1;exact⟨rfl,rfl,rfl,rfl,e2⟩
  .obtain⟨e1,e2⟩:=hs.k5 h;subst e1;exact⟨rfl,rfl,rfl,rfl,e2⟩
 have ca:=hs.t;have b7:=hs.f;have b9:=hs.g;have b6:=hs.da;clear hs;obtain⟨mk,tk,u,da⟩:=m;dsimp only at *;rw[show yC ⟨mk,tk,u,da⟩= .agg [iA mk,zD yA tk,zD iA u,zD yA da]from Z];have R:=DO s Y tk u;have L:=Vv s Y tk u;have ap:Qp s Y tk u 0=tk:=rfl
 have M:∀i:Nat,C6 s Y tk u i=if(i:Int)=s.f/\0<s.g then Qp s Y tk u i++OD Y else Qp s Y tk u i:=λ_=>rfl
 have O:∀i:Nat,Qp s Y tk u (i+1)=C6 s Y tk u i++OD (u.getD i dd):=λ_=>rfl
 generalize C6 s Y tk u=pg,Qp s Y tk u=S at *;obtain⟨st,sf,sg,bd,bb,au⟩:=s;dsimp only at *;rw[show UL ⟨st,sf,sg,bd,bb,au⟩= .agg [iA st,iA sf,iA sg,iA bd,iA bb,iA au]from Z]at*
 cases ok with
 |false=>
  refine⟨[],6,.inr Z,?_,λf hf=>⟨λh=>absurd h yX,λh=>absurd (hq f hf).2.2.2.2 yX⟩⟩;clear R L M O hq;refine eM call187 λF hF=>?_
  exact lk c1
 |true=>
 by_cases h1:(ln tk:Int)=st
 case neg=>
  refine⟨[],6,.inr Z,?_,λf hf=>⟨λh=>absurd h yX,λh=>absurd (show(ln tk:Int)=st by have:=(hq f hf).1;omega) h1⟩⟩;clear R L M O hq;refine eM call187 λF hF=>?_
  exact lk c1
 by_cases h2:au= -1\/(ln da:Int)=au
 case neg=>
  have br:¬au= -1:=λh=>h2 (.inl h)
  have bf:¬(ln da:Int)=au:=λh=>h2 (.inr h)
  refine⟨[],6,.inr Z,?_,λf hf=>⟨λh=>absurd h yX,λh=>absurd (show(ln da:Int)=au by have:=(hq f hf).2.2.2.1;rw[h.2.1];simp;omega) bf⟩⟩;clear R L M O hq h2;refine eM call187 λF hF=>?_
  exact lk c1
 cases bl with
 | false=>
  refine⟨[],6,.inr Z,?_,λf hf=>⟨λh=>absurd h yX,λh=>?_⟩⟩
  case refine_2=>
   obtain⟨q1,q2,q3,q4,_⟩:=hq f hf;have h5:=(av q3).2;rw[zAd (show((u.map iA).length:Int)=sf by omega)]at h5;cases h5
  clear R L M O hq
  rcases h2 with h2|h2
  all_goals
   (refine eM call187 λF hF=>?_)
   exact ld (xV c1 c2)
 |true=>
 by_cases h3:(ln da:Int)<=200
 case neg=>
  refine⟨[],6,.inr Z,?_,λf hf=>⟨λh=>absurd h yX,λh=>absurd (show(ln da:Int)<=200 by rw[h.2.1];simp) h3⟩⟩;clear R L M O hq
  rcases h2 with h2|h2
  all_goals
   (refine eM call187 λF hF=>?_)
   exact ld (xV c1 c2)
 have cg:=DN Y;have b4:=zA yA (OD Y);have cb:=YR Y
 rcases Pp u (ln u) (zAg _)with⟨k,bu,a2,a7⟩|ac
 .refine⟨[],6,.inr Z,?_,λf hf=>⟨λh=>absurd h yX,λh=>?_⟩⟩
  case refine_2=>
   have:=h.2.2.2 k zB;rw[a2]at this;cases this
  clear hq av;have C:∀i,i<k->Sp (u.getD i dd)=0:=λi hi=>by rw[Gg,a7 i hi,Os Z]
  have ax:Sp (u.getD k dd)=8:=by rw[Gg,a2,Of zAp]
  clear a2 a7
  rcases h2 with h2|h2
  all_goals
   refine eM call187 λF hF=>?_
   refine yJ (kC c1 c2 c3) ?_
  all_goals
   refine uG 1001 Z ?_;refine yW (ln u+1) [1001,1,4] [1,4] [1,4,6,64] [7,65,1,4,6,64] Z (λi T U zs=>(i<=k)/\zs=⟨(7,.ref 1001 0 ((S i).map yA).length)::(65,iA i)::T,(1001,.arr 1 ((S i).map yA) true)::U⟩) (Lp ?_ ?_ ?_)
   .refine⟨zAr _,?_⟩;rw[ap];rfl
   .rintro i st' hi ⟨hik,rfl⟩;have cv:=DN (u.getD i dd);have hy:=zJ iA u i zB;have a5:=R i;have a4:=L i;have hg:=M i;have hS:=O i;have a8:=zA yA (S i);have a9:=zA yA (OD (u.getD i dd));have ba:=YR (u.getD i dd)
    have a3:(i<k/\Sp (u.getD i dd)=0)\/(i=k/\Sp (u.getD i dd)=8):=by
     by_cases e:i=k
     .subst e;exact .inr ⟨rfl,ax⟩
     .exact .inl ⟨zB,C i zB⟩
    have ag:(S (i+1)).map yA=(pg i).map yA++(OD (u.getD i dd)).map yA:=by rw[hS,zAf]
    have z:(pg i).map yA=if(i:Int)=sf/\0<sg then(S i).map yA++(OD Y).map yA else(S i).map yA:=by
     rw[hg];split
     .rw[zAf]
     .rfl
    rw[ag];clear hS hg R L M O ap ag c1 c2 c3 C ax;generalize (S i).map yA=A,(pg i).map yA=B,OD (u.getD i dd)=V,Sp (u.getD i dd)=ve at *;generalize u.getD i dd=a at *;generalize OD Y=W at *;by_cases G:(i:Int)=sf
    .by_cases I:0<sg
     .rw[Os ⟨G,I⟩]at z;subst z
      rcases a3 with⟨az,rfl⟩|⟨az,rfl⟩
      ·(refine yJ (xV cg cv) ?_)
       exact⟨zB,rfl⟩
      .exact ld (xV cg cv)
     .rw[Of (λh=>I h.2)]at z;subst z
      rcases a3 with⟨az,rfl⟩|⟨az,rfl⟩
      ·(refine zQ cv ?_)
       exact⟨zB,rfl⟩
      .exact lk cv
    .rw[Of (λh=>G h.1)]at z;subst z
     rcases a3 with⟨az,rfl⟩|⟨az,rfl⟩
     ·(refine zQ cv ?_)
      exact⟨zB,rfl⟩
     .exact lk cv
   .rintro st' ⟨hik,rfl⟩;exfalso;omega
 .have a6:=L (ln u);by_cases hz:((pg (ln u)).map yA++da.map yA).length<=200
  case neg=>
   refine⟨[],6,.inr Z,?_,λf hf=>⟨λh=>absurd h yX,λh=>?_⟩⟩
   case refine_2=>
    exfalso;apply hz;have e1:=h.1;have e2:=h.2.1;have e3:=h.2.2.1;have e4:f<=3:=by omega
    rw[zAh,zAa,zAa,e2];simp only[zBh];omega
   clear hq av;have C:∀i,i<ln u->Sp (u.getD i dd)=0:=λi hi=>by rw[Gg,ac i hi,Os Z]
   clear ac
   rcases h2 with h2|h2
   all_goals
    refine eM call187 λF hF=>?_
    refine yJ (kC c1 c2 c3) ?_
   all_goals
    refine uG 1001 Z ?_;refine yW (ln u+1) [1001,1,4] [1,4] [1,4,6,64] [7,65,1,4,6,64] Z (λi T U zs=>(i<=ln u)/\zs=⟨(7,.ref 1001 0 ((S i).map yA).length)::(65,iA i)::T,(1001,.arr 1 ((S i).map yA) true)::U⟩) (Lp ?_ ?_ ?_)
    .refine⟨zAr _,?_⟩;rw[ap];rfl
    .rintro i st' hi ⟨hik,rfl⟩;have a5:=R i;have a4:=L i;have hg:=M i;have a8:=zA yA (S i);have bk:=zA yA (pg i)
     have z:(pg i).map yA=if(i:Int)=sf/\0<sg then(S i).map yA++(OD Y).map yA else(S i).map yA:=by
      rw[hg];split
      .rw[zAf]
      .rfl
     by_cases a1:i=ln u
     .subst a1;clear O hg R L M ap c1 c2 c3 C;generalize (S (ln u)).map yA=A at *;generalize (pg (ln u)).map yA=B at *;generalize OD Y=W at *;by_cases G:(ln u:Int)=sf
      .by_cases I:0<sg
       .rw[Os ⟨G,I⟩]at z;subst z;exact lk cg
       .rw[Of (λh=>I h.2)]at z;subst z;exact lc
      .rw[Of (λh=>G h.1)]at z;subst z;exact lc
     have cv:=DN (u.getD i dd);rw[C i zB]at cv;have hy:=zJ iA u i zB;have hS:=O i;have a9:=zA yA (OD (u.getD i dd));have ba:=YR (u.getD i dd);have ag:(S (i+1)).map yA=(pg i).map yA++(OD (u.getD i dd)).map yA:=by rw[hS,zAf]
     rw[ag];clear hS hg R L M O ap ag c1 c2 c3 C hz a6;generalize (pg (ln u)).map yA=E,(S i).map yA=A,(pg i).map yA=B,OD (u.getD i dd)=V at *;generalize u.getD i dd=a at *;generalize OD Y=W at *;by_cases G:(i:Int)=sf
     .by_cases I:0<sg
      .rw[Os ⟨G,I⟩]at z;subst z;refine yJ (xV cg cv) ?_;exact⟨zB,rfl⟩
      .rw[Of (λh=>I h.2)]at z;subst z;refine zQ cv ?_;exact⟨zB,rfl⟩
     .rw[Of (λh=>G h.1)]at z;subst z;refine zQ cv ?_;exact⟨zB,rfl⟩
    .rintro st' ⟨hik,rfl⟩;exfalso;omega
  refine⟨((pg (ln u)).map yA++da.map yA).take ((pg (ln u)).map yA++da.map yA).length,0,.inl Z,?_,λf hf=>⟨λ_=>?_,λ_=>rfl⟩⟩
  case refine_2=>
   obtain⟨q1,q2,q3,q4,_⟩:=hq f hf;have h5:=zD0 (av q3).2.symm;refine⟨zB,zBa zB,zB,λi hi=>ac i zB⟩
  clear hq av;have C:∀i,i<ln u->Sp (u.getD i dd)=0:=λi hi=>by rw[Gg,ac i hi,Os Z]
  clear ac
  rcases h2 with h2|h2
  all_goals
   refine eM call187 λF hF=>?_
   refine yJ (kC c1 c2 c3) ?_
  all_goals
   refine uG 1001 Z ?_;refine yW (ln u+1) [1001,1,4] [1,4] [1,4,6,64] [7,65,1,4,6,64] Z (λi T U zs=>(i<=ln u)/\zs=⟨(7,.ref 1001 0 ((S i).map yA).length)::(65,iA i)::T,(1001,.arr 1 ((S i).map yA) true)::U⟩) (Lp ?_ ?_ ?_)
   .refine⟨zAr _,?_⟩;rw[ap];rfl
   .rintro i st' hi ⟨hik,rfl⟩;have a5:=R i;have a4:=L i;have hg:=M i;have a8:=zA yA (S i);have bk:=zA yA (pg i)
    have z:(pg i).map yA=if(i:Int)=sf/\0<sg then(S i).map yA++(OD Y).map yA else(S i).map yA:=by
     rw[hg];split
     .rw[zAf]
     .rfl
    by_cases a1:i=ln u
    .subst a1;clear O hg R L M ap c1 c2 c3 C;generalize (S (ln u)).map yA=A at *;generalize (pg (ln u)).map yA=B at *;generalize OD Y=W at *;by_cases G:(ln u:Int)=sf
     .by_cases I:0<sg
      .rw[Os ⟨G,I⟩]at z;subst z;exact lk cg
      .rw[Of (λh=>I h.2)]at z;subst z;exact lc
     .rw[Of (λh=>G h.1)]at z;subst z;exact lc
    have cv:=DN (u.getD i dd);rw[C i zB]at cv;have hy:=zJ iA u i zB;have hS:=O i;have a9:=zA yA (OD (u.getD i dd));have ba:=YR (u.getD i dd);have ag:(S (i+1)).map yA=(pg i).map yA++(OD (u.getD i dd)).map yA:=by rw[hS,zAf]
    rw[ag];clear hS hg R L M O ap ag c1 c2 c3 C hz a6;generalize (pg (ln u)).map yA=E,(S i).map yA=A,(pg i).map yA=B,OD (u.getD i dd)=V at *;generalize u.getD i dd=a at *;generalize OD Y=W at *;by_cases G:(i:Int)=sf
    .by_cases I:0<sg
     .rw[Os ⟨G,I⟩]at z;subst z;refine yJ (xV cg cv) ?_;exact⟨zB,rfl⟩
     .rw[Of (λh=>I h.2)]at z;subst z;refine zQ cv ?_;exact⟨zB,rfl⟩
    .rw[Of (λh=>G h.1)]at z;subst z;refine zQ cv ?_;exact⟨zB,rfl⟩
   .rintro st' ⟨hik,rfl⟩;exfalso;omega
