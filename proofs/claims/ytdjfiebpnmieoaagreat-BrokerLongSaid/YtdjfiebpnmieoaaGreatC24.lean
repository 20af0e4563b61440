/- Part 24. -/
import Derived.Test.YtdjfiebpnmieoaaGreatC23
namespace Go.Proofs.YtdjfiebpnmieoaaGreat.Av
open Tryz
set_option linter.all false
set_option maxRecDepth 4000
set_option maxHeartbeats 4000000
open List renaming length->ln,replicate->nm,range->ny,take->oj,drop->pi
open Inhabited renaming default->dd
variable {c:Cf}{k f4:Int}{ar da:List Int}{l:List Rq}{d:xP}
def Ok (p:Ph) (h:Tx p) (l:Li) (B: -1000000000000<=l.tk/\l.tk<=1000000000000) (z: -1000<=Lf p/\Lf p<=1000) (C: -1000<=p.yel/\p.yel<=1000) (A: -1000<=p.red/\p.red<=1000):zO 80 [xQ p,xH l] [] (iA (Ur p l)) []:=by
 have c:=Pf p h;unfold Ur;generalize Lf p=n at *;by_cases h1:l.lamp=1
 .rw[Os h1,Int.max_comm];refine eM call80 λF hF=>?_
  exact lk c
 rw[Of h1];by_cases h2:l.lamp=2
 .rw[Os h2];refine eM call80 λF hF=>?_
  exact lc
 rw[Of h2];by_cases u:l.lamp=3
 .rw[Os u];refine eM call80 λF hF=>?_
  exact lc
 .rw[Of u];refine eM call80 λF hF=>?_
  exact lc
def Nk (s:Sg) (i:Nat):List Int:=(ny i).map λp=>ux (xT s.c p)
def Mk (j:Jn) (s:Sg) (i:Nat):List Int:=(ny i).map λp=>Ur (yH j p) (xT s.c p)
def af (f:Nat->Int) (n:Nat):(ny n).map f=XA (λp _=>f p) (nm n 0) n:=by
 apply zBb;intro k;rw[vZ,zB6,zAi];by_cases hk:k<n
 .rw[Os hk,Os hk,zBu hk];rfl
 .rw[Of hk,zB2 uH];rfl
theorem vx (j:Jn) (J:JV j) (s:Sg) (C:CV j s.c) (v:Sv):zO 42 [wD j,wC s,xY v] [] (wZ (RA j s v)) []:=by
 have k:=Bv j J.n.2;have hl:=zA xQ j.ph;have V:=J.n;have z:(s.c.li.map xH).length=ln j.ph:=by rw[zAa];exact C.n
 unfold RA
 cases u:s.lat with
 |true=>
  rw[Os Z];unfold wC xY;rw[u];unfold wZ at *;refine eM call42 λF hF=>?_
  exact lk k
 | false=>
  rw[Of zAp];have e1:HR s (ln j.ph) (ln j.ph)=Nk s (ln j.ph):=(af _ _).symm;have I:CJ j s (ln j.ph) (ln j.ph)=Mk j s (ln j.ph):=(af _ _).symm;rw[e1,I];have O:∀i,(Nk s (i+1)).map iA=(Nk s i).map iA++[iA (ux (xT s.c i))]:=λi=>by simp[Nk,zCf]
  have R:∀i,(Mk j s (i+1)).map iA=(Mk j s i).map iA++[iA (Ur (yH j i) (xT s.c i))]:=λi=>by simp[Mk,zCf]
  have L:∀i,((Nk s i).map iA).length=i:=λi=>by simp[Nk]
  have M:∀i,((Mk j s i).map iA).length=i:=λi=>by simp[Mk]
  unfold wD wC xY zD at *;rw[u];refine eM call42 λF hF=>?_
  refine WW ?_;refine zS 8 1021 1 Z Z Z ?_;refine zS 9 1022 1 Z Z Z ?_;refine zN ((s.c.li.map xH).length) [1021,1022,3,6,7] [3,6,7] [3,6,7,24,25] [8,9,26,3,6,7,24,25] Z (λi T U=>⟨(8,.ref 1021 0 ((Nk s i).map iA).length)::(9,.ref 1022 0 ((Mk j s i).map iA).length)::(26,iA i)::T,(1021,.arr 1 ((Nk s i).map iA) true)::(1022,.arr 1 ((Mk j s i).map iA) true)::U⟩) (Lq ?_ ?_)
  .intro i hi;have hi':i<ln j.ph:=by omega
   have Y:(j.ph.map xQ)[i]? =some (xQ (yH j i)):=zJ xQ j.ph i hi';have hz:(s.c.li.map xH)[i]? =some (xH (xT s.c i)):=zJ xH s.c.li i (by have:=C.n;omega);have W:=J.ti i hi';have hv:=C.k i hi';have x1:=L i;have x2:=M i
   have E: -1000000000000<=(xT s.c i).tk/\(xT s.c i).tk<=1000000000000:=by
    unfold vc at hv
    repeat' split at hv
    all_goals (first|(rw[zAe]at hv;omega)|cases hv)
   have G:=Ok (yH j i) ⟨zB,zB,zB,zB⟩ (xT s.c i) E (by unfold Lf;omega) zB zB;rw[O,R];clear O R L M k e1 I;generalize Ur (yH j i) (xT s.c i)=S,(Nk s i).map iA=A,(Mk j s i).map iA=B at *;generalize yH j i=p at *;unfold ux;generalize xT s.c i=l at *;by_cases h1:l.lamp=1
   .rw[Os (.inl h1)];refine zQ G ?_;rfl
   by_cases h2:l.lamp=2
   .rw[Os (.inr h2)];refine zQ G ?_;rfl
   .rw[Of (λh=>h.elim h1 h2)];refine zQ G ?_;rfl
  ·(refine WW ?_)
   refine zH [] Z Z ?_ Z
   show AV.agg [bA false,bA (v.ph != -1),.sl false (oj ((Nk s (s.c.li.map xH).length).map iA).length (pi 0 ((Nk s (s.c.li.map xH).length).map iA))),.sl false (oj ((Mk j s (s.c.li.map xH).length).map iA).length (pi 0 ((Mk j s (s.c.li.map xH).length).map iA)))]=_
   rw[zAu,zAb,zAu,zAb,z];rfl
theorem yt (c:Cf) (h:HT c):zO 10 [wO c] [] (uB (eQ c)) []:=by
 have E:=Yz c h;have hj:=h.j;have ha:=h.a;have B:=zA wD c.js;have A:=zA vX c.ags;have z:∀i,((UE c i).map zK).length=i:=λi=>by simp[UE]
 have u:uB (eQ c)= .agg [zD wD c.js,zD vX c.ags,iA c.per,iA c.cap,iA c.hold,iA c.lock,bA false,iA 0,zD zK (UE c (ln c.ags)),zD wC (c.js.map qZ),zD xY (c.js.map XB),zD iA (c.js.map λ_=> -1),zD wZ (c.js.map λj=>RA j (qZ j) (XB j))]:=rfl;rw[u];unfold wO zD at *;refine eM call10 λF hF=>?_
 refine zQ E ?_;refine zS 7 1011 17 Z Z Z ?_;refine zN ((c.ags.map vX).length) [1011,1,2,3] [1,2,3] [1,2,3,4,40,41] [7,42,1,2,3,4,40,41] Z (λi T U=>⟨(7,.ref 1011 0 ((UE c i).map zK).length)::(42,iA i)::T,(1011,.arr 17 ((UE c i).map zK) true)::U⟩) (Lq ?_ ?_)
 .intro i hi;have O:=zJ vX c.ags i zB;have S:=(iy (i:Int) _ (h.av _ (zY c.ags i zB))).2;have e:(UE c (i+1)).map zK=(UE c i).map zK++[zK (QX (i:Int) (c.ags.getD i dd) (c.ags.getD i dd).ses.toNat)]:=by unfold UE;rw[zCf,zAf,zAf];rfl
  have z:=z i;rw[e];clear E u e;generalize QX (i:Int) (c.ags.getD i dd) (c.ags.getD i dd).ses.toNat=dk at *;generalize c.ags.getD i dd=a at *;generalize (UE c i).map zK=X at *;unfold zK xC at*
  (have gd:=S;(repeat' (first|refine dZ ?_|apply yZ|apply xM|intro hc|(apply zG;first|(apply yR;refine kD tok Z Z ?_))|refine SB ?_|fail))<;>clear gd)
  rfl
 ·(refine WW ?_)
  refine zS 10 1012 5 Z Z Z ?_;refine zS 11 1013 3 Z Z Z ?_;refine zS 12 1014 1 Z Z Z ?_;refine zS 4 1015 4 Z Z Z ?_;rw[A];refine zN ((c.js.map wD).length) [1012,1013,1014,1015,2,3,1011] [2,3,1011] [2,3,7,55,56] [4,10,11,12,57,2,3,7,55,56] Z (λi T U=>⟨(4,.ref 1015 0 (((c.js.take i).map λj=>RA j (qZ j) (XB j)).map wZ).length)::(10,.ref 1012 0 (((c.js.take i).map qZ).map wC).length)::(11,.ref 1013 0 (((c.js.take i).map XB).map xY).length)::(12,.ref 1014 0 ((c.js.take i).map λ_=>iA (-1)).length)::(57,iA i)::T,(1012,.arr 5 (((c.js.take i).map qZ).map wC) true)::(1013,.arr 3 (((c.js.take i).map XB).map xY) true)::(1014,.arr 1 ((c.js.take i).map λ_=>iA (-1)) true)::(1015,.arr 4 (((c.js.take i).map λj=>RA j (qZ j) (XB j)).map wZ) true)::U⟩) (Lq ?_ ?_)
  .intro i hi;have hi':i<ln c.js:=by omega
   have O:=zJ wD c.js i hi';have J:=h.jv _ (zY c.js i hi')
   have G:c.js.take (i+1)=c.js.take i++[c.js.getD i dd]:=by
    rw[zAl,zA4 hi',zC1,zCk hi']
   have M:(c.js.take i).length<=4:=by rw[zAw];omega
   have R:=Uf _ J;have I:=Vt (c.js.getD i dd).ph.length GN;have L:=vx _ J (qZ (c.js.getD i dd)) (Rf J) (XB (c.js.getD i dd));have C:((c.js.getD i dd).ph.map xQ).length=(c.js.getD i dd).ph.length:=zAa ..;rw[G];simp only[zAf,zBk,zBt];have m1:(((c.js.take i).map qZ).map wC).length=(c.js.take i).length:=by simp
   have m2:(((c.js.take i).map XB).map xY).length=(c.js.take i).length:=by simp
   have m3:((c.js.take i).map λ_=>iA (-1)).length=(c.js.take i).length:=by simp
   have m4:(((c.js.take i).map λj=>RA j (qZ j) (XB j)).map wZ).length=(c.js.take i).length:=by simp
   clear E u G J;unfold XB at *;rw[<-C]at I L⊢;generalize BW ((c.js.getD i dd).ph.map xQ).length=sv,qZ (c.js.getD i dd)=V at *;generalize RA (c.js.getD i dd) V sv=vw at *;generalize c.js.getD i dd=j,((c.js.take i).map qZ).map wC=W at *;generalize ((c.js.take i).map λj=>BW (ln j.ph)).map xY=Y at *;generalize (c.js.take i).map (λ_=>iA (-1))=X3,((c.js.take i).map λj=>RA j (qZ j) (BW (ln j.ph))).map wZ=X4 at *;unfold wD zD wC xY wZ at*
   (have gd:=R;have gn:=I;have gt:=L;(repeat' (first|refine dZ ?_|apply yZ|apply xM|intro hc|(apply zG;first|(apply yR;refine kD tok Z Z ?_))|refine SB ?_|fail))<;>clear gd gn gt)
   rfl
  .rw[B,zAb];refine WW ?_;refine zH [] Z Z ?_ Z
   show AV.agg [.sl false (c.js.map wD),.sl false (c.ags.map vX),iA c.per,iA c.cap,iA c.hold,iA c.lock,bA false,iA 0,.sl false (oj ((UE c (ln c.ags)).map zK).length (pi 0 ((UE c (ln c.ags)).map zK))),.sl false (oj ((c.js.map qZ).map wC).length (pi 0 ((c.js.map qZ).map wC))),.sl false (oj ((c.js.map XB).map xY).length (pi 0 ((c.js.map XB).map xY))),.sl false (oj (c.js.map λ_=>iA (-1)).length (pi 0 (c.js.map λ_=>iA (-1)))),.sl false (oj ((c.js.map λj=>RA j (qZ j) (XB j)).map wZ).length (pi 0 ((c.js.map λj=>RA j (qZ j) (XB j)).map wZ)))]=_
   rw[zAu,zAb,zAu,zAb,zAu,zAb,zAu,zAb,zAu,zAb,show(c.js.map λ_=>iA (-1))=(c.js.map λ_=>(-1:Int)).map iA by rw[zEf];rfl]
def gz (j:Int) (x:Lg):zO 109 [yN x,.ptr 5 0 0] [(5,.box [iA j])] (bA (x.jn==j)) [(5,.box [iA j])]:=by
 refine eM call109 λF hF=>?_
 refine WW ?_;exact zP [5] Z Z Z Z
def ez (j:Int) (l:List Lg) (hb:ln l<=1000):zO 108 [zD yN l,.fn 109 [.ptr 5 0 0]] [(5,.box [iA j])] (iA (RZ (λr:Lg=>r.jn==j) l)) [(5,.box [iA j])]:=by
 have hl:=zA yN l;refine eM call108 λF hF=>?_
 refine WW ?_;refine qC (l) [5] [5] [0,1,7] [8,0,1,7] Z (λi ga T U C=>(∀y∈ga,(y.jn==j)=false)/\C=⟨(8,iA i)::T,U⟩) (Lp ?_ ?_ ?_)
 .exact⟨by simp,rfl⟩
 .rintro i ga x post st hx hi ⟨hp,rfl⟩;have z:=yI yN hx hi;have B:=zV hx hi;have c:=gz j x;have u:=MM (p:=λr:Lg=>r.jn==j) hx hp
  cases A:(x.jn==j)<;>rw[A]at c
  .clear hx u;refine zQ c ?_;exact⟨λy z=>by simp only[zA5,zBf]at z;rcases z with z|rfl;exact hp y z;exact A,rfl⟩
  .rw[u A,hi];clear hx u;refine zQ c ?_;exact zP [5] Z Z Z Z
 .rintro st ⟨hp,rfl⟩;rw[ZC hp];refine WW ?_;exact zP [5] rfl rfl rfl rfl
def LM (u j:Int) (x:Rq):List Cl:=if RZ (λr:Lg=>r.jn==j) x.legs<0 then []else if(x.legs.getD (RZ (λr:Lg=>r.jn==j) x.legs).toNat dd).sc= -1 then []else [⟨u,x.id,(x.legs.getD (RZ (λr:Lg=>r.jn==j) x.legs).toNat dd).ph,x.cls,(x.legs.getD (RZ (λr:Lg=>r.jn==j) x.legs).toNat dd).sc⟩]
def dB (u j:Int) (l:List Rq):List Cl:=(l.map (LM u j)).flatten
def Lk (u j:Int) (x:Rq):(LM u j x).length<=1:=by grind [LM]
def HO (u j:Int) (l:List Rq) (x:Rq):dB u j (l++[x])=dB u j l++LM u j x:=by simp[dB]
theorem bC (u j:Int):∀l:List Rq,(dB u j l).length<=ln l
 | []=>zAg _
 |x::l=>by
  have h1:=Lk u j x;have h2:=bC u j l;have e:dB u j (x::l)=LM u j x++dB u j l:=rfl;rw[e,zAh,zAm];omega
def Oh (l:List Rq) (u j:Int) (R:ln l<=1000) (hb:∀r∈l,ln r.legs<=1000):zO 50 [zD zX l,iA u,iA j] [] (zD kS (dB u j l)) []:=by
 have hl:=zA zX l;refine eM call50 λF hF=>?_
 refine WW ?_;refine zS 7 1001 5 Z Z Z ?_;refine zU (l) [1001,5] [5] [1,5,12,13] [7,14,1,5,12,13] Z (λi ga T U=>⟨(7,.ref 1001 0 ((dB u j ga).map kS).length)::(14,iA i)::T,(1001,.arr 5 ((dB u j ga).map kS) true)::U⟩) (Lq ?_ ?_)
 .intro i ga x post hx hi;have V:=yI zX hx hi;have G:=zV hx hi;have A:=ez j x.legs (hb x (yV hx));have S:=bC u j ga;have L:((dB u j ga).map kS).length=(dB u j ga).length:=zAa ..;have I:ln ga<=ln l:=by rw[hx];simp
  have M:(x.legs.map yN).length=ln x.legs:=zAa ..;rw[HO,zAf]
  have E: -1<=RZ (λr:Lg=>r.jn==j) x.legs/\(0<=RZ (λr:Lg=>r.jn==j) x.legs->RZ (λr:Lg=>r.jn==j) x.legs<ln x.legs):=by
   cases C:x.legs.any (λr:Lg=>r.jn==j)with
   |true=>have:=Ud C;omega
   |false=>rw[RZ,C,Of zAp];omega
  unfold LM;clear hx;generalize (dB u j ga).map kS=X at *;by_cases B:RZ (λr:Lg=>r.jn==j) x.legs<0
  .rw[Os B,zBt,zA2];generalize RZ (λr:Lg=>r.jn==j) x.legs=z at *;refine zQ A ?_;rfl
  .rw[Of B];have O:=yF yN x.legs (RZ (λr:Lg=>r.jn==j) x.legs) zB zB;generalize RZ (λr:Lg=>r.jn==j) x.legs=z at *;generalize x.legs.getD z.toNat dd=g at *;by_cases h1:g.sc= -1
   .rw[Os h1,zBt,zA2];refine zQ A ?_;rfl
   .rw[Of h1];refine zQ A ?_;rfl
 ·(refine WW ?_)
  exact zH [] Z Z (zAv (AV.sl false) zAb) Z
def gC (j:Int) (l:List xP):List Cl:=(l.map λd=>dB d.rg.num j d.rq).flatten
def HP (j:Int) (l:List xP) (d:xP):gC j (l++[d])=gC j l++dB d.rg.num j d.rq:=by simp[gC]
theorem LN (j:Int):∀l:List xP,(∀d∈l,ln d.rq<=1000)->(gC j l).length<=1000*ln l
 | [],_=>zAg _
 |d::l,h=>by
  have h1:=bC d.rg.num j d.rq;have h2:=LN j l (λx hx=>h x OT);have u:=h d zW;have e:gC j (d::l)=dB d.rg.num j d.rq++gC j l:=rfl;rw[e,zAh,zAm];omega
def Nh (c:Cf) (V:Bool) (f4:Int) (u:List xP) (j:Int) (hd:ln u<=1000) (hb:∀d∈u,cN d) (A B C D:List AV) (a b e f:Nat):
  zO 19 [bD c V f4 (zD zK u) (.ref 1012 0 a) (.ref 1013 0 b) (.ref 1014 0 e) (.ref 1015 0 f),iA j] [(1012,.arr 5 A false),(1013,.arr 3 B false),(1014,.arr 1 C false),(1015,.arr 4 D false)] (zD kS (gC j u)) [(1012,.arr 5 A false),(1013,.arr 3 B false),(1014,.arr 1 C false),(1015,.arr 4 D false)]:=by
 have hl:=zA zK u;unfold bD;refine eM call19 λF hF=>?_
 refine WW ?_;refine zS 5 1001 5 Z Z Z ?_;refine zU (u) [1001,1012,1013,1014,1015] [1012,1013,1014,1015] [1,9,10] [5,11,1,9,10] Z (λi ga T U=>⟨(5,.ref 1001 0 ((gC j ga).map kS).length)::(11,iA i)::T,(1001,.arr 5 ((gC j ga).map kS) true)::U⟩) (Lq ?_ ?_)
 .intro i ga x post hx hi;have S:=yI zK hx hi;have G:=zV hx hi;have z:=hb x (yV hx);have E:=Oh x.rq x.rg.num j z.q z.g;have W:=LN j ga (λd hd=>(hb d (by rw[hx];simp[hd])).q);have O:((gC j ga).map kS).length=(gC j ga).length:=zAa ..;have L:=bC x.rg.num j x.rq;have M:((dB x.rg.num j x.rq).map kS).length=(dB x.rg.num j x.rq).length:=zAa ..;have I:ln ga<=ln u:=by rw[hx];simp
  have R:=z.q;rw[HP,zAf];clear hx;generalize (gC j ga).map kS=X at *;unfold zD at E;generalize dB x.rg.num j x.rq=Y at *;unfold zK xC at S;refine zQ E ?_;rfl
 ·(refine WW ?_)
  exact zH [1012,1013,1014,1015] Z Z (zAv (AV.sl false) zAb) Z
def BO (a:Ag) (h:1<=a.ses/\a.ses<=2):zO 123 [vX a] [] (iA a.ses) []:=by
 refine eM call123 λF hF=>?_
 refine WW ?_;refine zH [] Z Z (zAv iA ?_) Z;omega
def Kk (a k s:Nat):AV:= .agg [iA a,iA k,iA s]
def Mh (c:Cf) (a:Nat):List (Nat×wB):=[(1103,.box [iA a]),(1104,.box [zD wD c.js,zD vX c.ags,iA c.per,iA c.cap,iA c.hold,iA c.lock])]
def FM (c:Cf) (a:Nat):List (List AV):=(ny (c.ags.getD a dd).ses.toNat).map λk=>[Kk a k ((jI c.ags a).toNat+k)]
def pf (c:Cf) (a:Nat):zO 61 [wO c,iA a] [] (.fn 122 [.ptr 1104 0 0,.ptr 1103 0 0]) (Mh c a):=by
 unfold wO Mh;refine eM call61 λF hF=>?_
 repeat' (first|(apply zG;first|refine qB (fF (v:=AV.agg _) 1104 Z Z) Z Z Z ?_|refine qB (fF (v:=AV.s _) 1103 Z Z) Z Z Z ?_|refine wX tok Z Z ?_|apply uT)|(first|apply xK|apply xF|refine vQ Z ?_|refine yM Z ?_|refine yB Z ?_|refine xU Z (λhc=>?_) λhc=>?_|apply xB|apply xG|apply xJ|apply xE))
 exact zP [1103,1104] Z Z Z Z
def Jk (c:Cf) (h:lf c.ags) (a:Nat) (L:a<ln c.ags):VT prog 122 [.ptr 1104 0 0,.ptr 1103 0 0] (Mh c a) (FM c a):=by
 have hl:=zA vX c.ags;have W:=h.1;have hs:=h.at L;refine YC func122 Z (λargs w=>call122 args w) Z Z Z (λF y O I G=>?_);unfold Mh;have R:((c.ags.take (a:Int).toNat).map vX).length=a:=by rw[zAa,zAw];omega
 have B:∀i,i<=a->jI (c.ags.take a) i=jI c.ags i:=λi=>by
  induction i with
  |zero=>intro _;rfl
  |succ i V=>
   intro hi;unfold jI;rw[V zB,zAl,zB3,Os zB,<-zAl]
 refine WW ?_;refine zN (a) [1103,1104] [1103,1104] [0,1,2,11,12] [4,13,1000000,0,1,2,11,12] Z (λi T U=>⟨(4,iA (jI c.ags i))::(13,iA i)::(1000000,.gh 0)::T,U⟩) (Lq ?_ ?_)
 .intro i hi
  have S:((c.ags.take (a:Int).toNat).map vX)[i]? =some (vX (c.ags.getD i dd)):=by
   show((c.ags.take a).map vX)[i]? =_
   rw[zAi,zB3,Os hi,zAl,zA4 zB];rfl
  have h2:=h.at (i:=i) zB;have hb:=kN h i zB;have E:=BO (c.ags.getD i dd) h2;rw[show jI c.ags (i+1)=jI c.ags i+(c.ags.getD i dd).ses from Z];clear B hs G;generalize jI c.ags i=z,c.ags.getD i dd=g at *;refine zQ E ?_;rfl
 .have S:=zJ vX c.ags a L;have E:=BO (c.ags.getD a dd) hs;have hb:=kN h a zB;obtain⟨u,A⟩:∃u:Nat,jI c.ags a=(u:Int):=⟨(jI c.ags a).toNat,zB⟩;obtain⟨N,hN⟩:∃N:Nat,(c.ags.getD a dd).ses=(N:Int):=⟨(c.ags.getD a dd).ses.toNat,zB⟩;have hL:FM c a=(ny N).map λk=>[Kk a k (u+k)]:=by unfold FM;rw[A,hN];rfl
  rw[A]at hb⊢;rw[hN]at E hs;rw[hL]at G⊢;clear hL hN B;generalize c.ags.getD a dd=g at *;refine zQ E ?_;refine zN (N) [1103,1104] [1103,1104] [0,2,4,27] [28,1000000,0,2,4,27] Z (λi T U=>⟨(28,iA i)::(1000000,.gh i)::T,U⟩) (Lq ?_ ?_)
  .intro k hk
   have C:((ny N).map λk=>[Kk a k (u+k)])[k]? =some [Kk a k (u+k)]:=by
    rw[zAi,zBu hk];rfl
   have M:k<((ny N).map λk=>[Kk a k (u+k)]).length:=by simp;exact hk
   rw[show Kk a k (u+k)= .agg [iA (a:Int),iA (k:Int),iA ((u:Int)+k)]from by unfold Kk;rw[show((u+k:Nat):Int)=(u:Int)+k by omega]]at C;generalize ((ny N).map λk=>[Kk a k (u+k)])=xs at*
   (repeat' (first|refine uD ?_|apply yZ|apply xM|intro hc|(apply zG;apply xO;first|(apply ia;refine MP I G Z Z C Z Z Z ?_ ?_))|(apply zG;first|refine SM ?_)|fail))
   .rfl
   .exact ZD Z (.inr zB)
  ·(refine WW ?_)
   exact XZ Z (.inl zW)
def SZ (b:List Int):Nat:=(b.getD 4 0).toNat*256+(b.getD 5 0).toNat
def Ab (b:List Int):Option (It×Nat):=
 if (ln b)=0 then none
 else if b.getD 0 0≠90\/(1<ln b/\b.getD 1 0≠165)then some (⟨2,0,[]⟩,1)
 else if (ln b)<6 then none
 else if 200<SZ b then some (⟨7,0,[]⟩,1)
 else if (ln b)<SZ b+10 then none
 else if bE ((b.drop 2).take (SZ b+4))≠PK ((b.drop (SZ b+6)).take 4)then some (⟨4,0,[]⟩,1)
 else if b.getD 2 0≠1 then some (⟨3,0,[]⟩,SZ b+10)
 else if b.getD 3 0<1\/22<b.getD 3 0 then some (⟨5,0,[]⟩,SZ b+10)
 else some (⟨0,b.getD 3 0,(b.drop 6).take (SZ b)⟩,SZ b+10)
def Lh (o:Option (It×Nat)):AV:=match o with
 |none=> .tup [wK ⟨0,0,[]⟩,iA 0,bA false]
 |some x=> .tup [wK x.1,iA x.2,bA true]
def b8 {x y:Int} (hx:0<=x/\x<256) (u:0<=y/\y<256):Sj (IntKind.i64.wrap (x*2 ^ (min (8:Int).toNat IntKind.i64.bits))) y=x*256+y:=by
 have h1:IntKind.i64.wrap (x*2 ^ (min (8:Int).toNat IntKind.i64.bits))=x*256:=by
  rw[show x*2 ^ (min (8:Int).toNat IntKind.i64.bits)=x*256 from Z];exact jD (k:= .i64) ⟨by show -9223372036854775808<=_;omega,by show _<=9223372036854775807;omega⟩
 rw[h1];obtain⟨a,rfl⟩:=zB4 hx.1;obtain⟨c,rfl⟩:=zB4 u.1;have h2:=DK (a*256) c zB zB;have z:=zD1 (show c<2 ^ 8 by omega) a
 grind [Sj,Nat.shiftLeft_eq]
def OO (b:List Int) (hb:BY b) (i:Nat) (hi:i<ln b):(b.map yA)[i]? =some (yA (b.getD i 0))/\0<=b.getD i 0/\b.getD i 0<256:=by grind [BY,yA,List.getD,List.getElem?_eq_getElem,List.getElem_mem]
section
variable (b:List Int) (hb:BY b) (hl:ln b<=1000000)
include hb hl
theorem xt:zO 340 [zD yA b] [] (Lh (Ab b)) []:=by
 have ap:=zA yA b;unfold Ab;by_cases V:ln b=0
 .rw[Os V];refine eM call340 λF hF=>?_
  exact lc
 rw[Of V];obtain⟨S,z0⟩:=OO b hb 0 zB;by_cases h1:b.getD 0 0=90
 case neg=>
  rw[Os (.inl h1)];generalize b.getD 0 0=x0 at *;refine eM call340 λF hF=>?_
  exact lc
 by_cases h2:1<ln b
 case neg=>
  rw[Of (λh=>h.elim (λh=>h h1) (λh=>h2 h.1)),Os zB];rw[h1]at S;refine eM call340 λF hF=>?_
  exact lc
 obtain⟨y1,z1⟩:=OO b hb 1 h2;by_cases E:b.getD 1 0=165
 case neg=>
  rw[Os (.inr ⟨h2,E⟩)];rw[h1]at S;generalize b.getD 1 0=x1 at *;refine eM call340 λF hF=>?_
  exact lc
 rw[Of (λh=>h.elim (λh=>h h1) (λh=>h.2 E))];rw[h1]at S;rw[E]at y1;clear z0 z1 h1 E;by_cases W:ln b<6
 .rw[Os W];refine eM call340 λF hF=>?_
  exact lc
 rw[Of W];obtain⟨y4,z4⟩:=OO b hb 4 zB;obtain⟨y5,z5⟩:=OO b hb 5 zB;have u:=b8 z4 z5;have O:b.getD 4 0*256+b.getD 5 0=(SZ b:Int):=by unfold SZ;omega
 rw[O]at u;generalize b.getD 4 0=x4,b.getD 5 0=x5 at *;generalize hN:SZ b=N at *;by_cases Y:200<N
 .rw[Os Y];refine eM call340 λF hF=>?_
  exact lc
 rw[Of Y];have B:=mf (N:Int) zB zB;by_cases h7:ln b<N+10
 .rw[Os h7];refine eM call340 λF hF=>?_
  (repeat' (first|refine uD ?_|apply yZ|apply xM|intro hc|(apply zG;first|refine SM ?_)|fail))
  rw[u];exact lk B
 rw[Of h7];have I:∀i k,BY ((b.drop i).take k):=λi k x hx=>hb x (zBj (zB5 hx))
 have G:=jx ((b.drop 2).take (N+4)) Wg (I _ _);have kn:=Zl ((b.drop (N+6)).take 4) Wg (I _ _)
 have e1:((b.map yA).drop (2:Int).toNat).take ((6+(N:Int)).toNat-(2:Int).toNat)=((b.drop 2).take (N+4)).map yA:=by
  rw[zDg,zC4,show(6+(N:Int)).toNat-(2:Int).toNat=N+4 by omega];rfl
 have e2:((b.map yA).drop (6+(N:Int)).toNat).take ((6+(N:Int)+4).toNat-(6+(N:Int)).toNat)=((b.drop (N+6)).take 4).map yA:=by
  rw[zDg,zC4,show(6+(N:Int)+4).toNat-(6+(N:Int)).toNat=4 by omega,show(6+(N:Int)).toNat=N+6 by omega]
 have e3:((b.map yA).drop (6:Int).toNat).take ((6+(N:Int)).toNat-(6:Int).toNat)=((b.drop 6).take N).map yA:=by
  rw[zDg,zC4,show(6+(N:Int)).toNat-(6:Int).toNat=N by omega];rfl
 have M:(((b.drop 6).take N).map yA).length=N:=by rw[zAa,zAw,zA8];omega
 have L:∀y,(((b.drop 6).take N).map yA)[0]? =some y->ln y.cells=1:=zZ _ _ (λ_=>rfl);generalize (b.drop 2).take (N+4)=B1,(b.drop (N+6)).take 4=B2,(b.drop 6).take N=U at *;clear I;obtain⟨y2,z2⟩:=OO b hb 2 zB;obtain⟨y3,z3⟩:=OO b hb 3 zB;generalize b.getD 2 0=x2,b.getD 3 0=C,bE B1=u1,PK B2=u2 at *;by_cases h8:u1=u2
 case neg=>
  rw[Os h8];refine eM call340 λF hF=>?_
  (repeat' (first|refine uD ?_|apply yZ|apply xM|intro hc|(apply zG;first|refine SM ?_)|fail))
  rw[u];exact ld (kC B G kn)
 rw[Of (λh=>h h8)];by_cases h9:x2=1
 case neg=>
  rw[Os h9];refine eM call340 λF hF=>?_
  (repeat' (first|refine uD ?_|apply yZ|apply xM|intro hc|(apply zG;first|refine SM ?_)|fail))
  rw[u];refine yJ (kC B G kn) ?_;refine zH [] Z Z (zAv (λz=>AV.tup [.agg [iA 3,iA 0,.sl false []],iA z,bA true]) ?_) Z;omega
 rw[Of (λh=>h h9)];by_cases A:C<1\/22<C
 .rw[Os A]
  rcases A with A|A
  all_goals
   refine eM call340 λF hF=>?_
   (repeat' (first|refine uD ?_|apply yZ|apply xM|intro hc|(apply zG;first|refine SM ?_)|fail))
   rw[u];refine yJ (kC B G kn) ?_;refine zH [] Z Z (zAv (λz=>AV.tup [.agg [iA 5,iA 0,.sl false []],iA z,bA true]) ?_) Z;omega
 .rw[Of A];have ac:1<=C:=by omega
  have ag:C<=22:=by omega
  refine eM call340 λF hF=>?_
  (repeat' (first|refine uD ?_|apply yZ|apply xM|intro hc|(apply zG;first|refine SM ?_)|fail))
  rw[u]
  (have gd:=B;have gn:=G;have gt:=kn;(repeat' (first|refine uD ?_|apply yZ|apply xM|intro hc|(apply zG;first|refine SM ?_|(refine qB (JQ tok Z Z Z Z Z Z Z L Z zB) Z Z Z ?_))|fail))<;>clear gd gn gt)
  have R:6+(N:Int)+4=((N+10:Nat):Int):=by omega
  refine zH [] Z Z ?_ Z
  show AV.tup [.agg [iA 0,iA C,.sl false (oj N (pi 0 (oj 0 (nm N (yA 0))++U.map yA++pi (0+(U.map yA).length) (nm N (yA 0)))))],iA (6+(N:Int)+4),bA true]=_
  rw[R,M,zAu,zDi,zCv,zFv zW,zA2,zAj zB];rfl
end
def FN (f g u:Int) (ar:List Int):Nat->List Int
 |0=>[]
 |i+1=>(if(i:Int)=f/\0<g then FN f g u ar i++gN u else FN f g u ar i)++gN (ar.getD i dd)
def LO (f g u:Int) (ar:List Int) (i:Nat):List Int:=if(i:Int)=f/\0<g then FN f g u ar i++gN u else FN f g u ar i
theorem BP {n:Int} (h:n<128):(gN n).length=1:=by unfold gN;rw[TN h];rfl
def D5 {n:Int} (h:n<16384):(gN n).length<=2:=by grind [gN,BP,EJ,TN]
theorem FO (f g u:Int) (ar:List Int):∀i,(FN f g u ar i).length<=10*i
 |0=>zAg _
 |i+1=>by
  have:=FO f g u ar i;have h1:=fD u;have h2:=fD (ar.getD i dd);unfold FN
  split<;>simp only[zAh]<;>omega
def vt (f g u:Int) (ar:List Int) (i:Nat):(LO f g u ar i).length<=10*i+5:=by grind [LO,FO,fD,List.length_append]
theorem Ik {f g u:Int} (z:0<=u/\u<=4294967295) (A:me ar):∀i,i<=ln ar->BY (FN f g u ar i)
 |0,_=>λx hx=>by cases hx
 | i+1,hi=>by
  have B:=Ik (f:=f) (g:=g) z A i zB;have h1:=Oe z.1 z.2;have h2:=A (ar.getD i dd) (zY ar i zB);have C:=Oe h2.1 h2.2;unfold FN;intro x hx
  rcases zA5.1 hx with hx|hx
  .split at hx
   .exact(zA5.1 hx).elim (B x) (h1 x)
   .exact B x hx
  .exact C x hx
def dz {f g u:Int} (A:0<=u/\u<=4294967295) (z:me ar) (i:Nat) (hi:i<=ln ar):BY (LO f g u ar i):=by grind [me,BY,LO,Ik,Oe]
theorem cz (k f g lo hi sd u:Int) (ar da:List Int) (c1:zO 227 [iA k] [] (.tup [UL ⟨0,f,g,lo,hi,sd⟩,bA true]) []) (c2:zO 228 [UL ⟨0,f,g,lo,hi,sd⟩,iA ((ar.map iA).length:Int)] [] (.tup [iA u,bA true]) [])
  (hd:sd= -1\/(ln da:Int)=sd) (ha:me ar) (av:ln ar<=100) (Y:0<=u/\u<=4294967295) (hz:(LO f g u ar (ln ar)++da).length<=200):
  zO 187 [yC ⟨k,[],ar,da⟩] [] (.tup [zD yA (LO f g u ar (ln ar)++da),iA 0]) []:=by
 have c3:=OY [] zW;have a3:=zA iA ar;have a4:=zA yA da;have cg:=Q6 u Y.1 Y.2;have a5:=zA yA (gN u);have a8:=fD u;have S:=FO f g u ar;have R:=vt f g u ar;have L:FN f g u ar 0=[]:=rfl
 have M:∀i:Nat,LO f g u ar i=if(i:Int)=f/\0<g then FN f g u ar i++gN u else FN f g u ar i:=λ_=>rfl
 have O:∀i:Nat,FN f g u ar (i+1)=LO f g u ar i++gN (ar.getD i dd):=λ_=>rfl
 have au:(LO f g u ar (ln ar)).length+ln da<=200:=by rw[zAh]at hz;exact hz
 have hz:((LO f g u ar (ln ar)).map yA++da.map yA).length<=200:=by rw[zAh]at hz;simp;omega
 have a1:ln da<=200:=by omega
 rw[show zD yA (LO f g u ar (ln ar)++da)= .sl false (oj ((LO f g u ar (ln ar)).map yA++da.map yA).length (pi 0 ((LO f g u ar (ln ar)).map yA++da.map yA))) by rw[zAu,zAb];unfold zD;rw[zAf]];rw[show yC ⟨k,[],ar,da⟩= .agg [iA k,zD yA [],zD iA ar,zD yA da]from Z];rw[show UL ⟨0,f,g,lo,hi,sd⟩= .agg [iA 0,iA f,iA g,iA lo,iA hi,iA sd]from Z]at *; generalize LO f g u ar=pg,FN f g u ar=I at *;clear au
 rcases hd with h2|h2
 all_goals
  refine eM call187 λF hF=>?_
  refine yJ (kC c1 c2 c3) ?_
 all_goals
  refine uG 1001 Z ?_;refine yW (ln ar+1) [1001,1,4] [1,4] [1,4,6,64] [7,65,1,4,6,64] Z (λi T U zs=>(i<=ln ar)/\zs=⟨(7,.ref 1001 0 ((I i).map yA).length)::(65,iA i)::T,(1001,.arr 1 ((I i).map yA) true)::U⟩) (Lp ?_ ?_ ?_)
  .refine⟨zAr _,?_⟩;rw[L];rfl
  .rintro i st' hi ⟨hik,rfl⟩;have az:=S i;have ax:=R i;have Y:=M i;have a6:=zA yA (I i);have a2:=zA yA (pg i)
   have z:(pg i).map yA=if(i:Int)=f/\0<g then(I i).map yA++(gN u).map yA else(I i).map yA:=by
    rw[Y];split
    .rw[zAf]
    .rfl
   by_cases ap:i=ln ar
   .subst ap;clear O Y S R M L c1 c2 c3;generalize (I (ln ar)).map yA=A at *;generalize (pg (ln ar)).map yA=B at *;generalize gN u=W at *;by_cases C:(ln ar:Int)=f
    .by_cases G:0<g
     .rw[Os ⟨C,G⟩]at z;subst z;exact lk cg
     .rw[Of (λh=>G h.2)]at z;subst z;exact lc
    .rw[Of (λh=>C h.1)]at z;subst z;exact lc
   have ag:=ha (ar.getD i dd) (zY ar i zB);have cv:=Q6 (ar.getD i dd) ag.1 ag.2;have hy:=zJ iA ar i zB;have hS:=O i;have a7:=zA yA (gN (ar.getD i dd));have a9:=fD (ar.getD i dd);have ac:(I (i+1)).map yA=(pg i).map yA++(gN (ar.getD i dd)).map yA:=by rw[hS,zAf]
   rw[ac];clear hS Y S R M O L ac c1 c2 c3 hz ha;generalize (pg (ln ar)).map yA=E,(I i).map yA=A,(pg i).map yA=B,gN (ar.getD i dd)=V at *;generalize ar.getD i dd=a at *;generalize gN u=W at *;by_cases C:(i:Int)=f
   .by_cases G:0<g
    .rw[Os ⟨C,G⟩]at z;subst z;refine yJ (xV cg cv) ?_;exact⟨zB,rfl⟩
    .rw[Of (λh=>G h.2)]at z;subst z;refine zQ cv ?_;exact⟨zB,rfl⟩
   .rw[Of (λh=>C h.1)]at z;subst z;refine zQ cv ?_;exact⟨zB,rfl⟩
  .rintro st' ⟨hik,rfl⟩;exfalso;omega
def gM (k:Int):Int×Int×Int×Int×Int:=if k=16 then(1,0,0,0,10)else if k=17\/k=21 then(1,0,0,0,-1)else if k=18 then(1,3,0,16,0)else if k=19 then(0,2,0,4,0)else if k=20 then(4,0,0,0,0)else(2,0,0,0,0)
def ut (k:Int) (h:13<=k/\k<=21):zO 227 [iA k] [] (.tup [UL ⟨0,(gM k).1,(gM k).2.1,(gM k).2.2.1,(gM k).2.2.2.1,(gM k).2.2.2.2⟩,bA true]) []:=by
 have:k=13\/k=14\/k=15\/k=16\/k=17\/k=18\/k=19\/k=20\/k=21:=by omega
 rcases this with rfl|rfl|rfl|rfl|rfl|rfl|rfl|rfl|rfl
 all_goals
  refine eM call227 λF hF=>?_
  exact lc
def Hk (f g lo hi A n u:Int) (O:0<=n/\n<=100) (M:0<=f/\f<=4) (h:(g=0/\n=f/\u=0)\/((g=2\/g=3)/\n=f+g*u/\0<=u/\lo<=u/\u<=hi)):zO 228 [UL ⟨0,f,g,lo,hi,A⟩,iA n] [] (.tup [iA u,bA true]) []:=by
 rw[show UL ⟨0,f,g,lo,hi,A⟩= .agg [iA 0,iA f,iA g,iA lo,iA hi,iA A]from Z]
 rcases h with⟨rfl,rfl,rfl⟩|⟨rfl|rfl,B,L,h1,h2⟩
 ·(refine eM call228 λF hF=>?_)
  exact lc
 .have z:u=(n-f).tdiv 2:=by
   rw[zCe zB];omega
  have G:(n-f).tmod 2=0:=by
   rw[zBm zB];omega
  have I:UJ .i64 ((n-f).tdiv 2):=by
   unfold UJ;have e1:IntKind.i64.min= -9223372036854775808:=by decide
   have C:IntKind.i64.max=9223372036854775807:=by decide
   omega
  have E:¬n-f<0:=by omega
  subst z;clear B;refine eM call228 λF hF=>?_
  exact lc
 .have z:u=(n-f).tdiv 3:=by
   rw[zCe zB];omega
  have G:(n-f).tmod 3=0:=by
   rw[zBm zB];omega
  have I:UJ .i64 ((n-f).tdiv 3):=by
   unfold UJ;have e1:IntKind.i64.min= -9223372036854775808:=by decide
   have C:IntKind.i64.max=9223372036854775807:=by decide
   omega
  have E:¬n-f<0:=by omega
  subst z;clear B;refine eM call228 λF hF=>?_
  exact lc
structure A4 (k:Int) (ar da:List Int):Prop where
 kk:13<=k/\k<=21
 n:me ar
 l:ar.length<=60
 b:BY da
 d:(gM k).2.2.2.2= -1\/(da.length:Int)=(gM k).2.2.2.2
 g:((gM k).2.1=0/\(ar.length:Int)=(gM k).1)\/(((gM k).2.1=2\/(gM k).2.1=3)/\∃gr:Int,(ar.length:Int)=(gM k).1+(gM k).2.1*gr/\0<=gr/\(gM k).2.2.1<=gr/\gr<=(gM k).2.2.2.1)
 z:(((ar.map gN).flatten).length+1)+da.length<=200
theorem nf (f g z:Int) (u:z<128) (ar:List Int):∀i,i<=ln ar->(FN f g z ar i).length<=(((ar.take i).map gN).flatten).length+(if f<i then 1 else 0)
 |0,_=>by simp[FN]
 | i+1,hi=>by
  have A:=nf f g z u ar i zB;have h1:=BP u
  have e:ar.take (i+1)=ar.take i++[ar.getD i dd]:=by
   rw[zAl,zA4 zB,zC1,zCk zB]
  rw[e,zAf,zD2];unfold FN;simp only[zAh,zBk,zBt,zDb,List.flatten_nil,zA2,zBh];split
  .rename_i h2;rw[zAh,h1,Os zB];rw[Of zB]at A;omega
  .by_cases B:f<i
   .rw[Os B]at A;rw[Os zB];omega
   .rw[Of B]at A
    split<;>omega
def qt (f g u:Int) (z:u<128) (ar:List Int):(LO f g u ar (ln ar)).length<=((ar.map gN).flatten).length+1:=by
 have A:=nf f g u z ar (ln ar) (zAg _)
 grind [LO,gN,BP,List.take_length,List.length_append]
def jt (f g u:Int) (ar:List Int) (h:ar≠[]):1<=(LO f g u ar (ln ar)).length:=by
 have h1:0<ln ar:=List.length_pos_iff.2 h;obtain⟨n,z⟩:∃n,ln ar=n+1:=⟨ln ar-1,zB⟩
 grind [LO,FN,List.length_append,fD]
def p8 (k:Int) (ar da p:List Int):Prop:=∃u:Int,(0<=u/\u<=100)/\(((gM k).2.1=0/\(ln ar:Int)=(gM k).1/\u=0)\/(((gM k).2.1=2\/(gM k).2.1=3)/\(ln ar:Int)=(gM k).1+(gM k).2.1*u/\0<=u/\(gM k).2.2.1<=u/\u<=(gM k).2.2.2.1))/\p=LO (gM k).1 (gM k).2.1 u ar (ln ar)++da
def Gk (h:A4 k ar da):∃p,(BY p/\p8 k ar da p)/\(ln p<=200/\(ar≠[]->1<=ln p))/\zO 187 [yC ⟨k,[],ar,da⟩] [] (.tup [zD yA p,iA 0]) []:=by
 have hl:=zA iA ar
 have E:(0<=(gM k).1/\(gM k).1<=4)/\(gM k).2.2.2.1<=16:=by
  have hk:=h.kk;have:k=13\/k=14\/k=15\/k=16\/k=17\/k=18\/k=19\/k=20\/k=21:=by omega
  clear hk h
  rcases this with rfl|rfl|rfl|rfl|rfl|rfl|rfl|rfl|rfl<;>decide
 obtain⟨E,hh⟩:=E
 obtain⟨u,G,S,A⟩:∃u:Int,(0<=u/\u<=100)/\True/\(((gM k).2.1=0/\((ar.map iA).length:Int)=(gM k).1/\u=0)\/(((gM k).2.1=2\/(gM k).2.1=3)/\((ar.map iA).length:Int)=(gM k).1+(gM k).2.1*u/\0<=u/\(gM k).2.2.1<=u/\u<=(gM k).2.2.2.1)):=by
  rw[hl]
  rcases h.g with⟨B,C⟩|⟨B,u,C,L,M,O⟩
  .exact⟨0,zB,trivial,.inl ⟨B,C,rfl⟩⟩
  .exact⟨u,zB,trivial,.inr ⟨B,C,L,M,O⟩⟩
 have I:=Hk _ _ (gM k).2.2.1 (gM k).2.2.2.1 (gM k).2.2.2.2 ((ar.map iA).length:Int) u (by have:=h.l;omega) E A;have hs:=qt (gM k).1 (gM k).2.1 u zB ar;have U:=h.z;refine⟨LO (gM k).1 (gM k).2.1 u ar (ln ar)++da,⟨?_,u,G,by rw[hl]at A;exact A,rfl⟩,?_,cz k _ _ _ _ _ u ar da (ut k h.kk) I h.d h.n (by have:=h.l;omega) zB (by rw[zAh];omega)⟩
 .intro x hx;exact(zA5.1 hx).elim (dz zB h.n (ln ar) (zAg _) x) (h.b x)
 .refine⟨by rw[zAh];omega,λR=>?_⟩;have:=jt (gM k).1 (gM k).2.1 u ar R;rw[zAh];omega
def bz (h:A4 k ar da):zO 127 [yC ⟨k,[],ar,da⟩] [] (bA true) []:=by
 obtain⟨p,_,_,c⟩:=Gk h;rw[show yC ⟨k,[],ar,da⟩= .agg [iA k,zD yA [],zD iA ar,zD yA da]from Z]at *; refine eM call127 λF hF=>?_
 exact lk c
def XG (h:A4 k ar da):∃p,(BY p/\p8 k ar da p)/\(ln p<=200/\(ar≠[]->1<=ln p))/\zO 212 [yC ⟨k,[],ar,da⟩] [] (.tup [zD yA (yc k p),iA 0]) []:=by
 obtain⟨p,h1,⟨h2,z⟩,c⟩:=Gk h;have hk:=h.kk;have u:=rz k p zB zB h1.1 h2;refine⟨p,h1,⟨h2,z⟩,?_⟩;generalize yc k p=q at *;rw[show yC ⟨k,[],ar,da⟩= .agg [iA k,zD yA [],zD iA ar,zD yA da]from Z]at *; refine eM call212 λF hF=>?_
 exact ld (xV c u)
section
def VK (m:Ms):Prop:=m.tok=[]/\A4 m.kind m.args m.data
structure pz (i:It):Prop where
 y:BY i.pay
 n:i.pay.length<=100000
 k:0<=i.kind/\i.kind<=255
 c:0<=i.code/\i.code<=100
def Vr (i:In):Prop:=ln i.its<=1000/\∀x∈i.its,pz x
theorem Vr.b {i:In} (h:Vr i):Xy i:=⟨h.1,λx hx=>⟨(h.2 x hx).y,(h.2 x hx).n⟩⟩
structure Fk (e:En):Prop where
 a:0<=e.ag/\e.ag<4
 k:0<=e.ki/\e.ki<=255
 c:0<=e.co/\e.co<=100
def cV (l:List Int):((l.map gN).flatten).length<=5*ln l:=by
 induction l with
 |nil=>simp
 |cons a l u=>
  grind [gN,fD,List.flatten_cons,List.length_append,List.length_cons]
def o8 (k a b:Int) (hk:k=13\/k=14\/k=15) (u:0<=a/\a<=4294967295) (hb:0<=b/\b<=4294967295):VK ⟨k,[],[a,b],[]⟩:=by
 have h:=cV [a,b];refine⟨rfl,?_⟩;dsimp only
 have hs:gM k=(2,0,0,0,0):=by rcases hk with rfl|rfl|rfl<;>rfl
 refine⟨zB,.cons u (.cons hb .nil),by simp,λx hx=>(by cases hx),?_,?_,by simp only[zAm,zBh]at *; omega⟩
 all_goals grind
def oz (u:qR c d):me (fB d.rq):=by
 have z:=u.v.ok;generalize d.rq=l at *;intro x hx;unfold fB at hx;obtain⟨y,B,hx⟩:=zEm.1 hx;obtain⟨r,A,rfl⟩:=zB0.1 B;have h:=z r A;have C:=h.i0;have h1:=h.i1;have h2:=h.t0;have E:=h.t1
 grind
def m8 (u:qR c d) {s:Int} (Y:0<=f4) (n1:f4<=1073741824) {i:It} (z:pz i) {h:Hd} (A:Py c d s i f4 h):VK h.p:=by
 have V:=u.n;by_cases C:h.e=0
 .obtain⟨a,_,L⟩:=A.yes C
  rcases L with⟨_,e,_⟩|⟨_,e,_⟩|⟨_,e,_⟩|⟨_,k,B,hk,⟨hs,M⟩,e⟩|⟨_,x,O,R,e⟩
  .rw[e];exact o8 13 _ _ (.inl Z) zB zB
  .have S:=u.v.n4;have hb:=oz u;have hl:=VZ d.rq;have E:=cV (fB d.rq);rw[e];refine⟨rfl,by dsimp only[OZ];omega,hb,by dsimp only[OZ];omega,λx hx=>(by cases hx),.inr Z,.inr ⟨.inl Z,(ln d.rq:Int),?_,zB,by show(0:Int)<=_;omega,by show _<=(4:Int);omega⟩,?_⟩
   .show((fB d.rq).length:Int)=0+2*(ln d.rq:Int)
    omega
   .show(((fB d.rq).map gN).flatten).length+1+0<=200
    omega
  .have G:=u.t8;have hv:=u.vh;have W:=u.q;have U:=u.a.q;have hl:=u.bl;have hb:=u.a.b;have I:OF d.rg.tk<=8:=by rw[<-G];exact zBy _ _
   rw[e];have E:=cV (ZP d).args;refine⟨rfl,by dsimp only[ZP];omega,.cons zB (.cons zB (.cons zB (.cons zB .nil))),by simp[ZP],λx hx=>(by cases hx),.inr Z,.inl ⟨rfl,rfl⟩,?_⟩
   grind [VK,ZP,gN]
  .rw[e];have E:=cV [(k:Int)];refine⟨rfl,by dsimp only;omega,.cons zB .nil,by simp,?_,.inr ?_,.inl ⟨rfl,rfl⟩,?_⟩
   .intro x hx;simp only[zBv]at hx
    rcases hx with rfl|rfl|hx
    .omega
    .omega
    .exact M x hx
   .show((d.rg.num::(k:Int)::B).length:Int)=10
    grind
   all_goals grind
  .rw[e];exact o8 14 _ _ (.inr (.inl Z)) (by have:=z.k;omega) ⟨O,R⟩
 .have hb:=A.eb z.c;rw[(A.no C).2.1];exact o8 15 _ _ (.inr (.inr Z)) (by have:=z.k;omega) zB
def l8 {s:Int} {i:It} {h:Hd} (z:Py c d s i f4 h):h.p.kind≠17:=by
 by_cases A:h.e=0
 .obtain⟨a,_,B⟩:=z.yes A
  rcases B with⟨_,e,_⟩|⟨_,e,_⟩|⟨_,e,_⟩|⟨_,k,C,hk,⟨hs,E⟩,e⟩|⟨_,x,G,I,e⟩
  all_goals (rw[e];intro u;revert u;first|decide|(intro u;cases u))
 .obtain⟨_,e,_⟩:=z.no A;rw[e];intro u;cases u
def HQ (f4:Int) (l:List Rq):Prop:=∀r∈l,∀g∈r.legs,g.sc<=f4
theorem HQ.mono {a b:Int} (h:HQ a l) (u:a<=b):HQ b l:=λr A g z=>Int.le_trans (h r A g z) u
theorem HQ.of (B:0<=f4) {u:List Rq} (h:HQ f4 l) (hs:TA l u):HQ f4 u:=λr A g z=>by
 rcases hs r A g z with h1|⟨r0,h1,_,g0,h2,_,_,h3⟩
 .omega
 .rw[<-h3];exact h r0 h1 g0 h2
theorem HQ.mk (G:0<=f4) (h:HQ f4 l):HQ f4 (CS l f4):=λr B g A=>by
 unfold CS at B;obtain⟨E,z,rfl⟩:=zB0.1 B;unfold B8 at A;obtain⟨C,u,rfl⟩:=zB0.1 A;unfold eP;have:=h E z C u;split
 .split
  .exact zCn _
  .exact this
 .show(-1:Int)<=f4
  omega
theorem Ek {s:Nat} (L:0<=f4) (M:f4<=1073741824) {u:List It} (I:∀x∈u,pz x) {f:Nat->TS} (z:∀e∈(f 0).en,Fk e) (E:(f 0).rs=[])
 (hs:∀k,k<ln u->Z7 c (s:Int) f4 (u.getD k dd) (f k) (f (k+1))) (hd:∀k,CT c d (f k).d):∀k,k<=ln u->(∀m∈(f k).rs,VK m/\m.kind≠17)/\(∀e∈(f k).en,Fk e)/\(∀j:Nat,j≠s->(f k).d.au[j]? =(f 0).d.au[j]?)/\TA (f 0).d.rq (f k).d.rq
 |0,_=>⟨λm A=>(by rw[E]at A;cases A),z,λ_ _=>rfl,TA.refl _⟩
 | k+1,hk=>by
  obtain⟨R,S,U,V⟩:=Ek L M I z E hs hd k zB;obtain⟨h,_,C,hb⟩:=hs k zB;have G:=(hd k).i;have B:=I _ (zY u k zB);have O:=G.n;rw[hb];refine⟨λm A=>?_,λe z=>?_,λj hj=>?_,V.trans C.sc⟩
  .rcases zA5.1 A with A|A
   .exact R m A
   .rw[zBf.1 A];exact⟨m8 G L M B C,l8 C⟩
  .rcases zA5.1 z with z|z
   .exact S e z
   .rw[zBf.1 z];exact⟨O,B.k,C.eb B.c⟩
  .dsimp only;rw[C.ax j zB,U j hj]
structure DR where
 d:xP
 R:List (List Ms)
 en:List En
 ks:List Int
def Ck (r:DR):AV:=ww r.d r.R r.en r.ks
structure I7 (c:Cf) (f4:Int) (d:xP) (ins:List In) (r:DR):Prop where
 i:qR c r.d
 ag:r.d.rg.ag=d.rg.ag
 num:r.d.rg.num=d.rg.num
 rn:r.R.length=d.au.length
 rl:∀s,s<d.au.length->(r.R.getD s []).length=(cQ ins s).length
 rv:∀l∈r.R,l.length<=1000/\∀m∈l,VK m
 rk:∀l∈r.R,∀m∈l,m.kind≠17
 el:r.en.length<=2000
 en:∀e∈r.en,Fk e
 kl:r.ks.length<=2000
 ks:∀x∈r.ks,0<=x/\x<(c.js.length:Int)
 sc:HQ f4 d.rq->HQ f4 r.d.rq
 au:∀s,s<d.au.length->cQ ins s=[]->r.d.au[s]? =some (NV ins s (d.au.getD s default))
 na:U4 d.rg.tk->U4 r.d.rg.tk/\r.d.au=Br ins d.au
def C5 {u:List In} (h:∀i∈u,Vr i) (s:Nat):∀x∈cQ u s,pz x:=by grind [Vr,cQ,zY]
theorem Ak (S:0<=f4) (U:f4<=1073741824) {u:List In} (A:∀i∈u,Vr i) {d:xP} {z:Nat->SS} (I:z 0=⟨d,[],[],[]⟩) (L:∀s,CT c d (z s).d/\V5 c f4 u s (z s) (z (s+1))):
  ∀s,(z s).R.length=s/\(∀j,j<s->((z s).R.getD j []).length=(cQ u j).length)/\(∀l∈(z s).R,ln l<=1000/\∀m∈l,VK m/\m.kind≠17)/\(∀e∈(z s).en,Fk e)/\(∀j,(s<=j\/cQ u j=[])->(z s).d.au[j]? =d.au[j]?)/\TA d.rq (z s).d.rq
 |0=>by rw[I];exact⟨rfl,λj hj=>absurd hj (zB7 _),λl hl=>(by cases hl),λe C=>(by cases C),λ_ _=>rfl,TA.refl _⟩
 | s+1=>by
  obtain⟨M,i1,i2,i3,O,i5⟩:=Ak S U A I L s;obtain⟨f,B,W,G,Y⟩:=(L s).2;have ac:=(FB (λi hi=>(A i hi).b) s).1;obtain⟨r1,r2,r3,V⟩:=Ek S U (C5 A s) (d:=(z s).d) (f:=f) (by rw[B];exact i3) (by rw[B]) W (λk=>(G k).1) _ (zAg _);rw[Y];dsimp only;have E:=(G (cQ u s).length).2.1;refine⟨by rw[zAh,zCi,M],λj hj=>?_,λl hl=>?_,r2,λj hj=>?_,i5.trans (by rw[B]at V;exact V)⟩
  .rw[zAl];by_cases h:j=s
   .subst h;rw[zBc zB,M,zCl];exact E
   .rw[zBg zB,<-zAl];exact i1 j zB
  .rcases zA5.1 hl with hl|hl
   .exact i2 l hl
   .rw[zBf.1 hl];exact⟨zB,r1⟩
  .by_cases h:j=s
   .subst h;have C:cQ u j=[]:=hj.elim (λh=>absurd h zB) id;rw[C,zBh,B];exact O j (.inl (zAg _))
   .rw[r3 j h,B];exact O j (hj.imp (λh=>by omega) id)
def jl (c:Cf) (d:xP) (C:qR c d) (u:List In) (ac:ln u=ln d.au) (I:∀i∈u,Vr i) (f4:Int) (B:0<=f4) (G:f4<=1073741824):
  ∃r:DR,I7 c f4 d u r/\zO 119 [wO c,zK d,zD qL u,iA f4] [] (Ck r) []/\zO 156 [wO c,zK d,zD qL u,iA f4] [] (Ck r) []:=by
 have A:∀i∈u,Xy i:=λi hi=>(I i hi).b
 have S:ln d.au=1\/d.au.length=2:=by have:=C.au;have:=C.a.e;omega
 obtain⟨z,O,E⟩:=yw c f4 B G u A (Wy d u) (Y7 C u);have hs:=Ak B G I O (λs=>⟨(E s).1,(E s).2.2⟩) (ln d.au);obtain⟨hT,⟨_,e2,e3,V⟩,_⟩:=E (ln d.au);refine⟨⟨xw (z (ln d.au)).d f4,(z (ln d.au)).R,(z (ln d.au)).en,(z (ln d.au)).ks⟩,⟨X7 hT.i f4 B G,hT.a,hT.n,hs.1,hs.2.1,λl h=>⟨(hs.2.2.1 l h).1,λm U=>((hs.2.2.1 l h).2 m U).1⟩,λl h m U=>((hs.2.2.1 l h).2 m U).2,by dsimp only;omega,hs.2.2.2.1,by dsimp only;omega,V,λW=>HQ.mk B (HQ.of B W hs.2.2.2.2.2),λs M Y=>?_,hT.t⟩,?_,uw C u zB A f4 B G z O E⟩
 .show(z (ln d.au)).d.au[s]? =_
  rw[hs.2.2.2.2.1 s (.inr Y)]
  show(Br u d.au)[s]? =_
  unfold Br;rw[vZ,Os M,Os M]
 .show zO 119 [wO c,zK d,zD qL u,iA f4] [] (ww (xw (z (ln d.au)).d f4) (z (ln d.au)).R (z (ln d.au)).en (z (ln d.au)).ks) []
  rcases S with L|L
  .rw[L];exact bj C u zB A f4 B G z O L zB E
  .rw[L];exact aj C u zB A f4 B G z O L zB E
open Classical in
noncomputable def XH (c:Cf) (d:xP) (u:List In) (f4:Int):DR:=if h:∃r:DR,I7 c f4 d u r/\zO 119 [wO c,zK d,zD qL u,iA f4] [] (Ck r) []/\zO 156 [wO c,zK d,zD qL u,iA f4] [] (Ck r) []then h.choose else⟨dd,[],[],[]⟩
def Kh (c:Cf) (d:xP) (B:qR c d) (u:List In) (z:ln u=ln d.au) (A:∀i∈u,Vr i) (f4:Int) (C:0<=f4) (E:f4<=1073741824):
  I7 c f4 d u (XH c d u f4)/\zO 119 [wO c,zK d,zD qL u,iA f4] [] (Ck (XH c d u f4)) []/\zO 156 [wO c,zK d,zD qL u,iA f4] [] (Ck (XH c d u f4)) []:=by
 have h:=jl c d B u z A f4 C E;unfold XH;rw[zFn h];exact h.choose_spec
def RK (c:Cf) (d:xP) (u:List In) (f4:Int):(XH c d u f4).en.length<=2000/\(XH c d u f4).ks.length<=2000:=by
 unfold XH;split
 .rename_i h;have:=h.choose_spec.1;exact⟨this.el,this.kl⟩
 all_goals grind
end
