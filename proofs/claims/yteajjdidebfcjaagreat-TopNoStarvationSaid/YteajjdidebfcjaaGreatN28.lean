/- Part 28. -/
import Derived.Test.YteajjdidebfcjaaGreatN27
namespace Go.Proofs.YteajjdidebfcjaaGreat
namespace Av
open Tryz
set_option linter.all false
set_option maxRecDepth 4000
set_option maxHeartbeats 8000000
def pnF (b:List Int):Nat:=(b.getD 4 0).toNat*256+(b.getD 5 0).toNat
def prF (b:List Int):Option (It×Nat):=
 if b.length=0 then none
 else if b.getD 0 0≠90∨(1<b.length/\b.getD 1 0≠165)then some (⟨2,0,[]⟩,1)
 else if b.length<6 then none
 else if 200<pnF b then some (⟨7,0,[]⟩,1)
 else if b.length<pnF b+10 then none
 else if aG ((b.drop 2).take (pnF b+4))≠ES ((b.drop (pnF b+6)).take 4)then some (⟨4,0,[]⟩,1)
 else if b.getD 2 0≠1 then some (⟨3,0,[]⟩,pnF b+10)
 else if b.getD 3 0<1∨22<b.getD 3 0 then some (⟨5,0,[]⟩,pnF b+10)
 else some (⟨0,b.getD 3 0,(b.drop 6).take (pnF b)⟩,pnF b+10)
def zUo (o:Option (It×Nat)):AV:=match o with
 |none=> .tup [vC ⟨0,0,[]⟩,iA 0,bA false]
 |some x=> .tup [vC x.1,iA x.2,bA true]
def or8 {x y:Int} (hx:0<=x/\x<256) (hy:0<=y/\y<256):orI (IntKind.i64.wrap (x*2 ^ (min (8:Int).toNat IntKind.i64.bits))) y=x*256+y:=by
 have h1:IntKind.i64.wrap (x*2 ^ (min (8:Int).toNat IntKind.i64.bits))=x*256:=by
  rw[show x*2 ^ (min (8:Int).toNat IntKind.i64.bits)=x*256 from Z];exact qW (k:= .i64) ⟨by show -9223372036854775808<=_;omega,by show _<=9223372036854775807;omega⟩
 rw[h1];obtain⟨a,rfl⟩:=yEp hx.1;obtain⟨c,rfl⟩:=yEp hy.1;have h2:=IS (a*256) c zB zB;have h3:=Nat.shiftLeft_add_eq_or_of_lt (show c<2 ^ 8 by omega) a;rw[Nat.shiftLeft_eq]at h3;rw[show((a:Int)*256)=((a*256:Nat):Int) by omega,h2,<-h3];omega
def byI (b:List Int) (hb:BY b) (i:Nat) (hi:i<b.length):(b.map yA)[i]? =some (yA (b.getD i 0))/\0<=b.getD i 0/\b.getD i 0<256:=by
 have e:b.getD i 0=b[i]:=by simp[List.getD,hi]
 refine⟨by rw[yBh,yBu hi,e];rfl,?_⟩;rw[e];exact hb _ (yD1 hi)
section
variable (b:List Int) (hb:BY b) (hl:b.length<=1000000)
include hb hl
theorem zO0:zO 102 [zD yA b] [] (zUo (prF b)) []:=by
 have hlb:=zA yA b;unfold prF;by_cases h0:b.length=0
 ·rw[yBd h0];refine eM call102 λF hF=>?_
  refine WW ?_;exact zJ
 rw[yBc h0];obtain⟨y0,z0⟩:=byI b hb 0 zB;by_cases h1:b.getD 0 0=90
 case neg=>
  rw[yBd (.inl h1)];generalize b.getD 0 0=x0 at *;refine eM call102 λF hF=>?_
  refine WW ?_;exact zJ
 by_cases h2:1<b.length
 case neg=>
  rw[yBc (λh=>h.elim (λh=>h h1) (λh=>h2 h.1)),yBd zB];rw[h1]at y0;refine eM call102 λF hF=>?_
  refine WW ?_;exact zJ
 obtain⟨y1,z1⟩:=byI b hb 1 h2;by_cases h3:b.getD 1 0=165
 case neg=>
  rw[yBd (.inr ⟨h2,h3⟩)];rw[h1]at y0;generalize b.getD 1 0=x1 at *;refine eM call102 λF hF=>?_
  refine WW ?_;exact zJ
 rw[yBc (λh=>h.elim (λh=>h h1) (λh=>h.2 h3))];rw[h1]at y0;rw[h3]at y1;clear z0 z1 h1 h3;by_cases h4:b.length<6
 ·rw[yBd h4];refine eM call102 λF hF=>?_
  refine WW ?_;exact zJ
 rw[yBc h4];obtain⟨y4,z4⟩:=byI b hb 4 zB;obtain⟨y5,z5⟩:=byI b hb 5 zB;have hor:=or8 z4 z5;have hpn:b.getD 4 0*256+b.getD 5 0=(pnF b:Int):=by unfold pnF;omega
 rw[hpn]at hor;generalize b.getD 4 0=x4 at *;generalize b.getD 5 0=x5 at *;generalize hN:pnF b=N at *;by_cases h6:200<N
 ·rw[yBd h6];refine eM call102 λF hF=>?_
  refine WW ?_;exact zJ
 rw[yBc h6];have kz:=zC7 (N:Int) zB zB;by_cases h7:b.length<N+10
 ·rw[yBd h7];refine eM call102 λF hF=>?_
  (repeat' (first|refine uC ?_|((first|apply xE|apply xV)<;>intro hc)|(refine zE ?_;first|refine SM ?_)|fail))
  rw[hor];refine zW kz ?_;exact zJ
 rw[yBc h7];have bd:∀i k,BY ((b.drop i).take k):=λi k x hx=>hb x (yCt (yDb hx))
 have kc:=zS4 ((b.drop 2).take (N+4)) zTl (bd _ _);have kn:=zI1 ((b.drop (N+6)).take 4) zTl (bd _ _)
 have e1:((b.map yA).drop (2:Int).toNat).take ((6+(N:Int)).toNat-(2:Int).toNat)=((b.drop 2).take (N+4)).map yA:=by
  rw[yFe,yFd,show(6+(N:Int)).toNat-(2:Int).toNat=N+4 by omega];rfl
 have e2:((b.map yA).drop (6+(N:Int)).toNat).take ((6+(N:Int)+4).toNat-(6+(N:Int)).toNat)=((b.drop (N+6)).take 4).map yA:=by
  rw[yFe,yFd,show(6+(N:Int)+4).toNat-(6+(N:Int)).toNat=4 by omega,show(6+(N:Int)).toNat=N+6 by omega]
 have e3:((b.map yA).drop (6:Int).toNat).take ((6+(N:Int)).toNat-(6:Int).toNat)=((b.drop 6).take N).map yA:=by
  rw[yFe,yFd,show(6+(N:Int)).toNat-(6:Int).toNat=N by omega];rfl
 have hpl:(((b.drop 6).take N).map yA).length=N:=by rw[yBe,yB4,yCj];omega
 have hph:∀y,(((b.drop 6).take N).map yA)[0]? =some y->y.cells.length=1:=yV _ _ (λ_=>rfl);generalize (b.drop 2).take (N+4)=B1 at *;generalize (b.drop (N+6)).take 4=B2 at *;generalize (b.drop 6).take N=B3 at *;clear bd;obtain⟨y2,z2⟩:=byI b hb 2 zB;obtain⟨y3,z3⟩:=byI b hb 3 zB;generalize b.getD 2 0=x2 at *;generalize b.getD 3 0=x3 at *;generalize aG B1=u1 at *;generalize ES B2=u2 at *;by_cases h8:u1=u2
 case neg=>
  rw[yBd h8];refine eM call102 λF hF=>?_
  (repeat' (first|refine uC ?_|((first|apply xE|apply xV)<;>intro hc)|(refine zE ?_;first|refine SM ?_)|fail))
  rw[hor];refine yS (gW kz kc kn) ?_;exact zJ
 rw[yBc (λh=>h h8)];by_cases h9:x2=1
 case neg=>
  rw[yBd h9];refine eM call102 λF hF=>?_
  (repeat' (first|refine uC ?_|((first|apply xE|apply xV)<;>intro hc)|(refine zE ?_;first|refine SM ?_)|fail))
  rw[hor];refine yS (gW kz kc kn) ?_;refine zH [] Z Z (yB8 (λz=>AV.tup [.agg [iA 3,iA 0,.sl false []],iA z,bA true]) ?_) Z;omega
 rw[yBc (λh=>h h9)];by_cases h10:x3<1∨22<x3
 ·rw[yBd h10]
  rcases h10 with h10|h10
  all_goals
   refine eM call102 λF hF=>?_
   (repeat' (first|refine uC ?_|((first|apply xE|apply xV)<;>intro hc)|(refine zE ?_;first|refine SM ?_)|fail))
   rw[hor];refine yS (gW kz kc kn) ?_;refine zH [] Z Z (yB8 (λz=>AV.tup [.agg [iA 5,iA 0,.sl false []],iA z,bA true]) ?_) Z;omega
 ·rw[yBc h10];have h11:1<=x3:=by omega
  have h12:x3<=22:=by omega
  refine eM call102 λF hF=>?_
  (repeat' (first|refine uC ?_|((first|apply xE|apply xV)<;>intro hc)|(refine zE ?_;first|refine SM ?_)|fail))
  rw[hor]
  (have zc1:=kz;have zc2:=kc;have zc3:=kn;(repeat' (first|refine uC ?_|((first|apply xE|apply xV)<;>intro hc)|(refine zE ?_;first|refine SM ?_|(refine qA (OV tok Z Z Z Z Z Z Z hph Z zB) Z Z Z ?_))|fail))<;>clear zc1 zc2 zc3)
  have hsz:6+(N:Int)+4=((N+10:Nat):Int):=by omega
  refine zH [] Z Z ?_ Z
  show AV.tup [.agg [iA 0,iA x3,.sl false (List.take N (List.drop 0 (List.take 0 (List.replicate N (yA 0))++B3.map yA++List.drop (0+(B3.map yA).length) (List.replicate N (yA 0)))))],iA (6+(N:Int)+4),bA true]=_
  rw[hsz,hpl,yCg,yEb,yDk,yFy zQ,yCd,yBo zB];rfl
end
def FB (f g gr:Int) (ar:List Int):Nat->List Int
 |0=>[]
 |i+1=>(if(i:Int)=f/\0<g then FB f g gr ar i++fL gr else FB f g gr ar i)++fL (ar.getD i default)
def LH (f g gr:Int) (ar:List Int) (i:Nat):List Int:=if(i:Int)=f/\0<g then FB f g gr ar i++fL gr else FB f g gr ar i
def EL {n:Int} (h:n<128):(fL n).length=1:=by unfold fL;rw[TE h];rfl
def zYf {n:Int} (h:n<16384):(fL n).length<=2:=by
 by_cases h1:n<128
 ·rw[EL h1];omega
 ·unfold fL;rw[IR zB,TE zB];simp
theorem JH (f g gr:Int) (ar:List Int):∀i,(FB f g gr ar i).length<=10*i
 |0=>yBg _
 |i+1=>by
  have:=JH f g gr ar i;have h1:=jV gr;have h2:=jV (ar.getD i default);unfold FB
  split<;>simp only[yBf]<;>omega
def zO1 (f g gr:Int) (ar:List Int) (i:Nat):(LH f g gr ar i).length<=10*i+5:=by
 have:=JH f g gr ar i;have h1:=jV gr;unfold LH
 split<;>(try simp only[yBf])<;>omega
theorem zIl {f g gr:Int} (hg:0<=gr/\gr<=4294967295) {ar:List Int} (ha:RF ar):∀i,i<=ar.length->BY (FB f g gr ar i)
 |0,_=>λx hx=>by cases hx
 | i+1,hi=>by
  have ih:=zIl (f:=f) (g:=g) hg ha i zB;have h1:=GT hg.1 hg.2;have h2:=ha (ar.getD i default) (zS ar i zB);have h3:=GT h2.1 h2.2;unfold FB;intro x hx
  rcases yBy.1 hx with hx|hx
  ·split at hx
   ·exact(yBy.1 hx).elim (ih x) (h1 x)
   ·exact ih x hx
  ·exact h3 x hx
def zUp {f g gr:Int} (hg:0<=gr/\gr<=4294967295) {ar:List Int} (ha:RF ar) (i:Nat) (hi:i<=ar.length):BY (LH f g gr ar i):=by
 have ih:=zIl (f:=f) (g:=g) hg ha i hi;have h1:=GT hg.1 hg.2;unfold LH;intro x hx;split at hx
 ·exact(yBy.1 hx).elim (ih x) (h1 x)
 ·exact ih x hx
theorem zUq (k f g lo hi sd gr:Int) (ar da:List Int) (c1:zO 103 [iA k] [] (.tup [YE ⟨0,f,g,lo,hi,sd⟩,bA true]) []) (c2:zO 179 [YE ⟨0,f,g,lo,hi,sd⟩,iA ((ar.map iA).length:Int)] [] (.tup [iA gr,bA true]) [])
  (hd:sd= -1∨(da.length:Int)=sd) (ha:RF ar) (hal:ar.length<=100) (hg:0<=gr/\gr<=4294967295) (hz:(LH f g gr ar ar.length++da).length<=200):
  zO 134 [yB ⟨k,[],ar,da⟩] [] (.tup [zD yA (LH f g gr ar ar.length++da),iA 0]) []:=by
 have c3:=RB [] zQ;have hla:=zA iA ar;have hld:=zA yA da;have cg:=zY8 gr hg.1 hg.2;have hlg:=zA yA (fL gr);have hvg:=jV gr;have hpl:=JH f g gr ar;have hpg:=zO1 f g gr ar;have hp0:FB f g gr ar 0=[]:=rfl
 have hpG:∀i:Nat,LH f g gr ar i=if(i:Int)=f/\0<g then FB f g gr ar i++fL gr else FB f g gr ar i:=λ_=>rfl
 have hpS:∀i:Nat,FB f g gr ar (i+1)=LH f g gr ar i++fL (ar.getD i default):=λ_=>rfl
 have hz3:(LH f g gr ar ar.length).length+da.length<=200:=by rw[yBf]at hz;exact hz
 have hz:((LH f g gr ar ar.length).map yA++da.map yA).length<=200:=by rw[yBf]at hz;simp;omega
 have hd3:da.length<=200:=by omega
 rw[show zD yA (LH f g gr ar ar.length++da)= .sl false (List.take ((LH f g gr ar ar.length).map yA++da.map yA).length (List.drop 0 ((LH f g gr ar ar.length).map yA++da.map yA))) by rw[yCg,yBj];unfold zD;rw[yBn]];rw[show yB ⟨k,[],ar,da⟩= .agg [iA k,zD yA [],zD iA ar,zD yA da]from Z];rw[show YE ⟨0,f,g,lo,hi,sd⟩= .agg [iA 0,iA f,iA g,iA lo,iA hi,iA sd]from Z]at *; generalize LH f g gr ar=pg at *;generalize FB f g gr ar=py at *;clear hz3
 rcases hd with h2|h2
 all_goals
  refine eM call134 λF hF=>?_
  refine yS (gW c1 c2 c3) ?_
 all_goals
  refine uK 1001 Z ?_;refine xR (ar.length+1) [1001,1,4] [1,4] [1,4,6,64] [7,65,1,4,6,64] Z (λi T U zs=>(i<=ar.length)/\zs=⟨(7,.ref 1001 0 ((py i).map yA).length)::(65,iA i)::T,(1001,.arr 1 ((py i).map yA) true)::U⟩) ?_;(conv=>whnf);refine⟨?_,?_,?_⟩
  ·refine⟨yBt _,?_⟩;rw[hp0];rfl
  ·rintro i st' hi ⟨hik,rfl⟩;have hbl:=hpl i;have hb2:=hpg i;have hg:=hpG i;have hlp:=zA yA (py i);have hlP:=zA yA (pg i)
   have hmG:(pg i).map yA=if(i:Int)=f/\0<g then(py i).map yA++(fL gr).map yA else(py i).map yA:=by
    rw[hg];split
    ·rw[yBn]
    ·rfl
   by_cases hie:i=ar.length
   ·subst hie;clear hpS hg hpl hpg hpG hp0 c1 c2 c3;generalize (py ar.length).map yA=A at *;generalize (pg ar.length).map yA=B at *;generalize fL gr=W at *;by_cases hi1:(ar.length:Int)=f
    ·by_cases hi2:0<g
     ·rw[yBd ⟨hi1,hi2⟩]at hmG;subst hmG;refine zW cg ?_;exact zJ
     ·rw[yBc (λh=>hi2 h.2)]at hmG;subst hmG;refine WW ?_;exact zJ
    ·rw[yBc (λh=>hi1 h.1)]at hmG;subst hmG;refine WW ?_;exact zJ
   have hna:=ha (ar.getD i default) (zS ar i zB);have cv:=zY8 (ar.getD i default) hna.1 hna.2;have hy:=zM iA ar i zB;have hS:=hpS i;have hlv:=zA yA (fL (ar.getD i default));have hvv:=jV (ar.getD i default);have hmS:(py (i+1)).map yA=(pg i).map yA++(fL (ar.getD i default)).map yA:=by rw[hS,yBn]
   rw[hmS];clear hS hg hpl hpg hpG hpS hp0 hmS c1 c2 c3 hz ha;generalize (pg ar.length).map yA=E at *;generalize (py i).map yA=A at *;generalize (pg i).map yA=B at *;generalize fL (ar.getD i default)=V at *;generalize ar.getD i default=a at *;generalize fL gr=W at *;by_cases hi1:(i:Int)=f
   ·by_cases hi2:0<g
    ·rw[yBd ⟨hi1,hi2⟩]at hmG;subst hmG;refine yS (vH cg cv) ?_;exact⟨zB,rfl⟩
    ·rw[yBc (λh=>hi2 h.2)]at hmG;subst hmG;refine zW cv ?_;exact⟨zB,rfl⟩
   ·rw[yBc (λh=>hi1 h.1)]at hmG;subst hmG;refine zW cv ?_;exact⟨zB,rfl⟩
  ·rintro st' ⟨hik,rfl⟩;exfalso;omega
def dH (k:Int):Int×Int×Int×Int×Int:=if k=16 then(1,0,0,0,10)else if k=17∨k=21 then(1,0,0,0,-1)else if k=18 then(1,3,0,16,0)else if k=19 then(0,2,0,4,0)else if k=20 then(4,0,0,0,0)else(2,0,0,0,0)
def zO2 (k:Int) (h:13<=k/\k<=21):zO 103 [iA k] [] (.tup [YE ⟨0,(dH k).1,(dH k).2.1,(dH k).2.2.1,(dH k).2.2.2.1,(dH k).2.2.2.2⟩,bA true]) []:=by
 have:k=13∨k=14∨k=15∨k=16∨k=17∨k=18∨k=19∨k=20∨k=21:=by omega
 rcases this with rfl|rfl|rfl|rfl|rfl|rfl|rfl|rfl|rfl
 all_goals
  refine eM call103 λF hF=>?_
  refine WW ?_;exact zJ
def zIm (f g lo hi sd n gr:Int) (hn:0<=n/\n<=100) (hf:0<=f/\f<=4) (h:(g=0/\n=f/\gr=0)∨((g=2∨g=3)/\n=f+g*gr/\0<=gr/\lo<=gr/\gr<=hi)):zO 179 [YE ⟨0,f,g,lo,hi,sd⟩,iA n] [] (.tup [iA gr,bA true]) []:=by
 rw[show YE ⟨0,f,g,lo,hi,sd⟩= .agg [iA 0,iA f,iA g,iA lo,iA hi,iA sd]from Z]
 rcases h with⟨rfl,rfl,rfl⟩|⟨rfl|rfl,he,h0,h1,h2⟩
 ·(refine eM call179 λF hF=>?_)
  refine WW ?_;exact zJ
 ·have hgr:gr=(n-f).tdiv 2:=by
   rw[yC5 zB];omega
  have hm:(n-f).tmod 2=0:=by
   rw[yC2 zB];omega
  have hq:aA .i64 ((n-f).tdiv 2):=by
   unfold aA;have e1:IntKind.i64.min= -9223372036854775808:=by decide
   have e2:IntKind.i64.max=9223372036854775807:=by decide
   omega
  have h9:¬n-f<0:=by omega
  subst hgr;clear he;refine eM call179 λF hF=>?_
  refine WW ?_;exact zJ
 ·have hgr:gr=(n-f).tdiv 3:=by
   rw[yC5 zB];omega
  have hm:(n-f).tmod 3=0:=by
   rw[yC2 zB];omega
  have hq:aA .i64 ((n-f).tdiv 3):=by
   unfold aA;have e1:IntKind.i64.min= -9223372036854775808:=by decide
   have e2:IntKind.i64.max=9223372036854775807:=by decide
   omega
  have h9:¬n-f<0:=by omega
  subst hgr;clear he;refine eM call179 λF hF=>?_
  refine WW ?_;exact zJ
structure SvM (k:Int) (ar da:List Int):Prop where
 kk:13<=k/\k<=21
 n:RF ar
 l:ar.length<=60
 b:BY da
 d:(dH k).2.2.2.2= -1∨(da.length:Int)=(dH k).2.2.2.2
 g:((dH k).2.1=0/\(ar.length:Int)=(dH k).1)∨(((dH k).2.1=2∨(dH k).2.1=3)/\∃gr:Int,(ar.length:Int)=(dH k).1+(dH k).2.1*gr/\0<=gr/\(dH k).2.2.1<=gr/\gr<=(dH k).2.2.2.1)
 z:(((ar.map fL).flatten).length+1)+da.length<=200
theorem zC6 (f g gr:Int) (hgr:gr<128) (ar:List Int):∀i,i<=ar.length->(FB f g gr ar i).length<=(((ar.take i).map fL).flatten).length+(if f<i then 1 else 0)
 |0,_=>by simp[FB]
 | i+1,hi=>by
  have ih:=zC6 f g gr hgr ar i zB;have h1:=EL hgr
  have e:ar.take (i+1)=ar.take i++[ar.getD i default]:=by
   rw[yBl,yBu zB,yDi,yFq zB]
  rw[e,yBn,yGw];unfold FB;simp only[yBf,yCh,yD2,yDv,List.flatten_nil,yCd,yCr];split
  ·rename_i h2;rw[yBf,h1,yBd zB];rw[yBc zB]at ih;omega
  ·by_cases h3:f<i
   ·rw[yBd h3]at ih;rw[yBd zB];omega
   ·rw[yBc h3]at ih
    split<;>omega
def zO3 (f g gr:Int) (hgr:gr<128) (ar:List Int):(LH f g gr ar ar.length).length<=((ar.map fL).flatten).length+1:=by
 have ih:=zC6 f g gr hgr ar ar.length (yBg _);have h1:=EL hgr;rw[yBj]at ih;unfold LH;split
 ·rename_i h2;rw[yBf,h1];rw[yBc zB]at ih;omega
 ·split at ih<;>omega
def zO4 (f g gr:Int) (ar:List Int) (h:ar≠[]):1<=(LH f g gr ar ar.length).length:=by
 have h1:0<ar.length:=List.length_pos_iff.2 h;obtain⟨n,hn⟩:∃n,ar.length=n+1:=⟨ar.length-1,zB⟩
 have h2:1<=(FB f g gr ar ar.length).length:=by
  rw[hn];unfold FB;rw[yBf];have:=(jV (ar.getD n default)).1;omega
 unfold LH;split
 ·rw[yBf];omega
 ·exact h2
def PyF (k:Int) (ar da p:List Int):Prop:=∃gr:Int,(0<=gr/\gr<=100)/\(((dH k).2.1=0/\(ar.length:Int)=(dH k).1/\gr=0)∨(((dH k).2.1=2∨(dH k).2.1=3)/\(ar.length:Int)=(dH k).1+(dH k).2.1*gr/\0<=gr/\(dH k).2.2.1<=gr/\gr<=(dH k).2.2.2.1))/\p=LH (dH k).1 (dH k).2.1 gr ar ar.length++da
def zIn {k:Int} {ar da:List Int} (h:SvM k ar da):∃p,(BY p/\PyF k ar da p)/\(p.length<=200/\(ar≠[]->1<=p.length))/\zO 134 [yB ⟨k,[],ar,da⟩] [] (.tup [zD yA p,iA 0]) []:=by
 have hl:=zA iA ar
 have hf:(0<=(dH k).1/\(dH k).1<=4)/\(dH k).2.2.2.1<=16:=by
  have hk:=h.kk;have:k=13∨k=14∨k=15∨k=16∨k=17∨k=18∨k=19∨k=20∨k=21:=by omega
  clear hk h
  rcases this with rfl|rfl|rfl|rfl|rfl|rfl|rfl|rfl|rfl<;>decide
 obtain⟨hf,hh⟩:=hf
 obtain⟨gr,hg1,hg2,hg3⟩:∃gr:Int,(0<=gr/\gr<=100)/\True/\(((dH k).2.1=0/\((ar.map iA).length:Int)=(dH k).1/\gr=0)∨(((dH k).2.1=2∨(dH k).2.1=3)/\((ar.map iA).length:Int)=(dH k).1+(dH k).2.1*gr/\0<=gr/\(dH k).2.2.1<=gr/\gr<=(dH k).2.2.2.1)):=by
  rw[hl]
  rcases h.g with⟨g1,g2⟩|⟨g1,gr,g2,g3,g4,g5⟩
  ·exact⟨0,zB,trivial,.inl ⟨g1,g2,rfl⟩⟩
  ·exact⟨gr,zB,trivial,.inr ⟨g1,g2,g3,g4,g5⟩⟩
 have c2:=zIm _ _ (dH k).2.2.1 (dH k).2.2.2.1 (dH k).2.2.2.2 ((ar.map iA).length:Int) gr (by have:=h.l;omega) hf hg3;have hs:=zO3 (dH k).1 (dH k).2.1 gr zB ar;have hz:=h.z;refine⟨LH (dH k).1 (dH k).2.1 gr ar ar.length++da,⟨?_,gr,hg1,by rw[hl]at hg3;exact hg3,rfl⟩,?_,zUq k _ _ _ _ _ gr ar da (zO2 k h.kk) c2 h.d h.n (by have:=h.l;omega) zB (by rw[yBf];omega)⟩
 ·intro x hx;exact(yBy.1 hx).elim (zUp zB h.n ar.length (yBg _) x) (h.b x)
 ·refine⟨by rw[yBf];omega,λh9=>?_⟩;have:=zO4 (dH k).1 (dH k).2.1 gr ar h9;rw[yBf];omega
def zUr {k:Int} {ar da:List Int} (h:SvM k ar da):zO 195 [yB ⟨k,[],ar,da⟩] [] (bA true) []:=by
 obtain⟨p,_,_,c⟩:=zIn h;rw[show yB ⟨k,[],ar,da⟩= .agg [iA k,zD yA [],zD iA ar,zD yA da]from Z]at *; refine eM call195 λF hF=>?_
 refine zW c ?_;exact zJ
def JJ {k:Int} {ar da:List Int} (h:SvM k ar da):∃p,(BY p/\PyF k ar da p)/\(p.length<=200/\(ar≠[]->1<=p.length))/\zO 97 [yB ⟨k,[],ar,da⟩] [] (.tup [zD yA (frF k p),iA 0]) []:=by
 obtain⟨p,h1,⟨h2,h3⟩,c⟩:=zIn h;have hk:=h.kk;have c2:=zUw k p zB zB h1.1 h2;refine⟨p,h1,⟨h2,h3⟩,?_⟩;generalize frF k p=q at *;rw[show yB ⟨k,[],ar,da⟩= .agg [iA k,zD yA [],zD iA ar,zD yA da]from Z]at *; refine eM call97 λF hF=>?_
 refine yS (vH c c2) ?_;exact zJ
section
def NQ (m:Ms):Prop:=m.tok=[]/\SvM m.kind m.args m.data
structure ItK (i:It):Prop where
 y:BY i.pay
 n:i.pay.length<=100000
 k:0<=i.kind/\i.kind<=255
 c:0<=i.code/\i.code<=100
def InS (i:In):Prop:=i.its.length<=1000/\∀x∈i.its,ItK x
theorem InS.b {i:In} (h:InS i):InB i:=⟨h.1,λx hx=>⟨(h.2 x hx).y,(h.2 x hx).n⟩⟩
structure EnK (e:En):Prop where
 a:0<=e.ag/\e.ag<4
 k:0<=e.ki/\e.ki<=255
 c:0<=e.co/\e.co<=100
def fZ (l:List Int):((l.map fL).flatten).length<=5*l.length:=by
 induction l with
 |nil=>simp
 |cons a l ih=>
  have:=(jV a).2;rw[yCh,yDv,yBf,yBp];omega
def sv2 (k a b:Int) (hk:k=13∨k=14∨k=15) (ha:0<=a/\a<=4294967295) (hb:0<=b/\b<=4294967295):NQ ⟨k,[],[a,b],[]⟩:=by
 have h:=fZ [a,b];refine⟨rfl,?_⟩;dsimp only
 have hs:dH k=(2,0,0,0,0):=by rcases hk with rfl|rfl|rfl<;>rfl
 refine⟨zB,.cons ha (.cons hb .nil),by simp,λx hx=>(by cases hx),?_,?_,by simp only[yBp,yCr]at *; omega⟩
 ·rw[hs];exact .inr Z
 ·rw[hs];exact .inl ⟨rfl,rfl⟩
def zUs {c:Cf} {d:xH} (hI:uW c d):RF (fF d.rq):=by
 have ho:=hI.v.ok;generalize d.rq=l at *;intro x hx;unfold fF at hx;obtain⟨y,hy,hx⟩:=yDt.1 hx;obtain⟨r,hr,rfl⟩:=yCc.1 hy;have h:=ho r hr;have h0:=h.i0;have h1:=h.i1;have h2:=h.t0;have h3:=h.t1;simp only[yCk,yFo,yGp]at hx;omega
def yAi {c:Cf} {d:xH} (hI:uW c d) {s now:Int} (n0:0<=now) (n1:now<=1073741824) {i:It} (hK:ItK i) {h:Hd} (hP:HdP c d s i now h):NQ h.p:=by
 have hn:=hI.n;by_cases he:h.e=0
 ·obtain⟨a,_,hr⟩:=hP.yes he
  rcases hr with⟨_,e,_⟩|⟨_,e,_⟩|⟨_,e,_⟩|⟨_,k,sec,hk,⟨hs,hy⟩,e⟩|⟨_,x,x0,x1,e⟩
  ·rw[e];exact sv2 13 _ _ (.inl Z) zB zB
  ·have h4:=hI.v.n4;have hb:=zUs hI;have hl:=TZ d.rq;have hf:=fZ (fF d.rq);rw[e];refine⟨rfl,by dsimp only[NE];omega,hb,by dsimp only[NE];omega,λx hx=>(by cases hx),.inr Z,.inr ⟨.inl Z,(d.rq.length:Int),?_,zB,by show(0:Int)<=_;omega,by show _<=(4:Int);omega⟩,?_⟩
   ·show((fF d.rq).length:Int)=0+2*(d.rq.length:Int)
    omega
   ·show(((fF d.rq).map fL).flatten).length+1+0<=200
    omega
  ·have h8:=hI.t8;have hv:=hI.vh;have hq:=hI.q;have ha:=hI.a.q;have hl:=hI.bl;have hb:=hI.a.b;have hfr:GN d.rg.tk<=8:=by rw[<-h8];exact yDr _ _
   rw[e];have hf:=fZ (bO d).args;refine⟨rfl,by dsimp only[bO];omega,.cons zB (.cons zB (.cons zB (.cons zB .nil))),by simp[bO],λx hx=>(by cases hx),.inr Z,.inl ⟨rfl,rfl⟩,?_⟩
   show(((bO d).args.map fL).flatten).length+1+0<=200
   have:(bO d).args.length=4:=rfl;omega
  ·rw[e];have hf:=fZ [(k:Int)];refine⟨rfl,by dsimp only;omega,.cons zB .nil,by simp,?_,.inr ?_,.inl ⟨rfl,rfl⟩,?_⟩
   ·intro x hx;simp only[yCk]at hx
    rcases hx with rfl|rfl|hx
    ·omega
    ·omega
    ·exact hy x hx
   ·show((d.rg.num::(k:Int)::sec).length:Int)=10
    simp only[yBp];omega
   ·show(([(k:Int)].map fL).flatten).length+1+(d.rg.num::(k:Int)::sec).length<=200
    simp only[yBp,yCr]at hf⊢;omega
  ·rw[e];exact sv2 14 _ _ (.inr (.inl Z)) (by have:=hK.k;omega) ⟨x0,x1⟩
 ·have hb:=hP.eb hK.c;rw[(hP.no he).2.1];exact sv2 15 _ _ (.inr (.inr Z)) (by have:=hK.k;omega) zB
def yAj {c:Cf} {d:xH} {s now:Int} {i:It} {h:Hd} (hP:HdP c d s i now h):h.p.kind≠17:=by
 by_cases he:h.e=0
 ·obtain⟨a,_,hr⟩:=hP.yes he
  rcases hr with⟨_,e,_⟩|⟨_,e,_⟩|⟨_,e,_⟩|⟨_,k,sec,hk,⟨hs,hy⟩,e⟩|⟨_,x,x0,x1,e⟩
  all_goals (rw[e];intro h17;revert h17;first|decide|(intro h17;cases h17))
 ·obtain⟨_,e,_⟩:=hP.no he;rw[e];intro h17;cases h17
def FC (now:Int) (l:List Rq):Prop:=∀r∈l,∀g∈r.legs,g.sc<=now
theorem FC.mono {a b:Int} {l:List Rq} (h:FC a l) (hab:a<=b):FC b l:=λr hr g hg=>Int.le_trans (h r hr g hg) hab
theorem FC.of {now:Int} (n0:0<=now) {l l':List Rq} (h:FC now l) (hs:YR l l'):FC now l':=λr hr g hg=>by
 rcases hs r hr g hg with h1|⟨r0,h1,_,g0,h2,_,_,h3⟩
 ·omega
 ·rw[<-h3];exact h r0 h1 g0 h2
theorem FC.mk {now:Int} (n0:0<=now) {l:List Rq} (h:FC now l):FC now (DW l now):=λr hr g hg=>by
 unfold DW at hr;obtain⟨r0,hr0,rfl⟩:=yCc.1 hr;unfold mkR at hg;obtain⟨g0,hg0,rfl⟩:=yCc.1 hg;unfold bR;have:=h r0 hr0 g0 hg0;split
 ·split
  ·exact yC8 _
  ·exact this
 ·show(-1:Int)<=now
  omega
def ScM (now:Int) (l l':List Rq):Prop:=∀q∈l',∀g∈q.legs,g.sc= -1∨g.sc=now∨∃r0∈l,r0.id=q.id/\∃g0∈r0.legs,g0.jn=g.jn/\g0.ph=g.ph/\g0.sc=g.sc
theorem ScM.of {now:Int} {l l1:List Rq} (h:YR l l1):ScM now l (DW l1 now):=λq hq g hg=>by
 unfold DW at hq;obtain⟨r1,hr1,rfl⟩:=yCc.1 hq;unfold mkR at hg⊢;obtain⟨g1,hg1,rfl⟩:=yCc.1 hg;unfold bR;split
 ·split
  ·exact .inr (.inl Z)
  ·exact(h r1 hr1 g1 hg1).imp id .inr
 ·exact .inl Z
def zO5 (l:List Rq) (now:Int):∀q∈DW l now,∀g∈q.legs,g.sc≠ -1->CJ g now=true:=λq hq g hg hs=>by
 unfold DW at hq;obtain⟨r1,hr1,rfl⟩:=yCc.1 hq;unfold mkR at hg;obtain⟨g1,hg1,rfl⟩:=yCc.1 hg;unfold bR at hs⊢;split at hs
 ·rename_i h;rw[yBd h];split
  ·exact h
  ·exact h
 ·exact absurd Z hs
theorem zIo {c:Cf} {s:Nat} {now:Int} (n0:0<=now) (n1:now<=1073741824) {its:List It} (hK:∀x∈its,ItK x) {f:Nat->TS} {d:xH} (he:∀e∈(f 0).en,EnK e) (h0:(f 0).rs=[])
  (hs:∀k,k<its.length->StR c (s:Int) now (its.getD k default) (f k) (f (k+1))) (hd:∀k,AI c d (f k).d):∀k,k<=its.length->(∀m∈(f k).rs,NQ m/\m.kind≠17)/\(∀e∈(f k).en,EnK e)/\(∀j:Nat,j≠s->(f k).d.au[j]? =(f 0).d.au[j]?)/\YR (f 0).d.rq (f k).d.rq
 |0,_=>⟨λm hm=>(by rw[h0]at hm;cases hm),he,λ_ _=>rfl,YR.refl _⟩
 | k+1,hk=>by
  obtain⟨i1,i2,i3,i4⟩:=zIo n0 n1 hK he h0 hs hd k zB;obtain⟨h,_,hP,hb⟩:=hs k zB;have hI:=(hd k).i;have hit:=hK _ (zS its k zB);have hn:=hI.n;rw[hb];refine⟨λm hm=>?_,λe he=>?_,λj hj=>?_,i4.trans hP.sc⟩
  ·rcases yBy.1 hm with hm|hm
   ·exact i1 m hm
   ·rw[yCf.1 hm];exact⟨yAi hI n0 n1 hit hP,yAj hP⟩
  ·rcases yBy.1 he with he|he
   ·exact i2 e he
   ·rw[yCf.1 he];exact⟨hn,hit.k,hP.eb hit.c⟩
  ·dsimp only;rw[hP.ax j zB,i3 j hj]
structure DR where
 d:xH
 R:List (List Ms)
 en:List En
 ks:List Int
def drT (r:DR):AV:=tkT r.d r.R r.en r.ks
structure DtP (c:Cf) (now:Int) (d:xH) (ins:List In) (r:DR):Prop where
 i:uW c r.d
 ag:r.d.rg.ag=d.rg.ag
 num:r.d.rg.num=d.rg.num
 rn:r.R.length=d.au.length
 rl:∀s,s<d.au.length->(r.R.getD s []).length=(dM ins s).length
 rv:∀l∈r.R,l.length<=1000/\∀m∈l,NQ m
 rk:∀l∈r.R,∀m∈l,m.kind≠17
 el:r.en.length<=2000
 en:∀e∈r.en,EnK e
 kl:r.ks.length<=2000
 ks:∀x∈r.ks,0<=x/\x<(c.js.length:Int)
 sc:FC now d.rq->FC now r.d.rq
 lv:∀q∈r.d.rq,∀g∈q.legs,g.sc≠ -1->CJ g now=true
 sp:ScM now d.rq r.d.rq
 au:∀s,s<d.au.length->dM ins s=[]->r.d.au[s]? =some (FO ins s (d.au.getD s default))
def zYg {ins:List In} (h:∀i∈ins,InS i) (s:Nat):∀x∈dM ins s,ItK x:=by
 unfold dM;split
 ·rename_i hs;exact(h _ (zS ins s hs.1)).2
 ·exact λx hx=>by cases hx
theorem zIp {c:Cf} {now:Int} (n0:0<=now) (n1:now<=1073741824) {ins:List In} (hin:∀i∈ins,InS i) {d:xH} {zF:Nat->SS} (h0:zF 0=⟨d,[],[],[]⟩) (hz:∀s,AI c d (zF s).d/\SeR c now ins s (zF s) (zF (s+1))):
  ∀s,(zF s).R.length=s/\(∀j,j<s->((zF s).R.getD j []).length=(dM ins j).length)/\(∀l∈(zF s).R,l.length<=1000/\∀m∈l,NQ m/\m.kind≠17)/\(∀e∈(zF s).en,EnK e)/\(∀j,(s<=j∨dM ins j=[])->(zF s).d.au[j]? =d.au[j]?)/\YR d.rq (zF s).d.rq
 |0=>by rw[h0];exact⟨rfl,λj hj=>absurd hj (yDp _),λl hl=>(by cases hl),λe he=>(by cases he),λ_ _=>rfl,YR.refl _⟩
 | s+1=>by
  obtain⟨i0,i1,i2,i3,i4,i5⟩:=zIp n0 n1 hin h0 hz s;obtain⟨f,f0,f1,f2,f3⟩:=(hz s).2;have hsb:=(AJ (λi hi=>(hin i hi).b) s).1;obtain⟨r1,r2,r3,r4⟩:=zIo n0 n1 (zYg hin s) (d:=(zF s).d) (f:=f) (by rw[f0];exact i3) (by rw[f0]) f1 (λk=>(f2 k).1) _ (yBg _);rw[f3];dsimp only;have hrl:=(f2 (dM ins s).length).2.1;refine⟨by rw[yBf,yDu,i0],λj hj=>?_,λl hl=>?_,r2,λj hj=>?_,i5.trans (by rw[f0]at r4;exact r4)⟩
  ·rw[yBl];by_cases h:j=s
   ·subst h;rw[yB9 zB,i0,yDh];exact hrl
   ·rw[yCi zB,<-yBl];exact i1 j zB
  ·rcases yBy.1 hl with hl|hl
   ·exact i2 l hl
   ·rw[yCf.1 hl];exact⟨zB,r1⟩
  ·by_cases h:j=s
   ·subst h;have he:dM ins j=[]:=hj.elim (λh=>absurd h zB) id;rw[he,yCr,f0];exact i4 j (.inl (yBg _))
   ·rw[r3 j h,f0];exact i4 j (hj.imp (λh=>by omega) id)
def zIq (c:Cf) (d:xH) (hI:uW c d) (ins:List In) (hil:ins.length=d.au.length) (hin:∀i∈ins,InS i) (now:Int) (n0:0<=now) (n1:now<=1073741824):
  ∃r:DR,DtP c now d ins r/\zO 94 [wN c,zI d,zD jR ins,iA now] [] (drT r) []:=by
 have hib:∀i∈ins,InB i:=λi hi=>(hin i hi).b
 have hau:d.au.length=1∨d.au.length=2:=by have:=hI.au;have:=hI.a.e;omega
 obtain⟨zF,z0,hz⟩:=zR7 c now n0 n1 ins hib (dkU d ins) (zZo hI ins);have hs:=zIp n0 n1 hin z0 (λs=>⟨(hz s).1,(hz s).2.2⟩) d.au.length;obtain⟨hT,⟨_,e2,e3,e4⟩,_⟩:=hz d.au.length;refine⟨⟨dkM (zF d.au.length).d now,(zF d.au.length).R,(zF d.au.length).en,(zF d.au.length).ks⟩,⟨zZp hT.i now n0 n1,hT.a,hT.n,hs.1,hs.2.1,λl h=>⟨(hs.2.2.1 l h).1,λm hm=>((hs.2.2.1 l h).2 m hm).1⟩,λl h m hm=>((hs.2.2.1 l h).2 m hm).2,by dsimp only;omega,hs.2.2.2.1,by dsimp only;omega,e4,λh9=>FC.mk n0 (FC.of n0 h9 hs.2.2.2.2.2),zO5 _ _,ScM.of hs.2.2.2.2.2,λs hsl he=>?_⟩,?_⟩
 ·show(zF d.au.length).d.au[s]? =_
  rw[hs.2.2.2.2.1 s (.inr he)]
  show(auF ins d.au)[s]? =_
  unfold auF;rw[uP,yBd hsl,yBd hsl]
 ·show zO 94 [wN c,zI d,zD jR ins,iA now] [] (tkT (dkM (zF d.au.length).d now) (zF d.au.length).R (zF d.au.length).en (zF d.au.length).ks) []
  rcases hau with hn|hn
  ·rw[hn];exact zGs hI ins zB hib now n0 n1 zF z0 hn zB hz
  ·rw[hn];exact zGt hI ins zB hib now n0 n1 zF z0 hn zB hz
open Classical in
noncomputable def YU (c:Cf) (d:xH) (ins:List In) (now:Int):DR:=if h:∃r:DR,DtP c now d ins r/\zO 94 [wN c,zI d,zD jR ins,iA now] [] (drT r) []then h.choose else⟨default,[],[],[]⟩
def zE7 (c:Cf) (d:xH) (hI:uW c d) (ins:List In) (hil:ins.length=d.au.length) (hin:∀i∈ins,InS i) (now:Int) (n0:0<=now) (n1:now<=1073741824):
  DtP c now d ins (YU c d ins now)/\zO 94 [wN c,zI d,zD jR ins,iA now] [] (drT (YU c d ins now)) []:=by
 have h:=zIq c d hI ins hil hin now n0 n1;unfold YU;rw[yHl h];exact h.choose_spec
def EM (c:Cf) (d:xH) (ins:List In) (now:Int):(YU c d ins now).en.length<=2000/\(YU c d ins now).ks.length<=2000:=by
 unfold YU;split
 ·rename_i h;have:=h.choose_spec.1;exact⟨this.el,this.kl⟩
 ·exact⟨yBt _,yBt _⟩
end
def owP (ins:List In) (b k:Nat):List In:=(List.range k).map λj=>ins.getD (b+j) default
def zIr (ins:List In) (b k:Nat):owP ins b (k+1)=owP ins b k++[ins.getD (b+k) default]:=by simp[owP,yDs]
def owI (c:Cf) (ins:List In) (a:Nat):List In:=owP ins (jP c.ags a).toNat (c.ags.getD a default).ses.toNat
def rpA (r:DR):AV:=zD ZF r.R
def bgL (now:Int) (ds:List xH) (i:Nat):List xH:=WA (λ_ d=>GR d now) ds i
def SF (now:Int) (ds:List xH) (rF:Nat->DR) (i:Nat):List xH:=(List.range ds.length).map λk=>if k<i then(rF k).d else GR (ds.getD k default) now
def rpL (n:Nat) (rF:Nat->DR) (i:Nat):List AV:=(List.range n).map λk=>if k<i then rpA (rF k)else .s (.slice none 0 0)
def NR (rF:Nat->DR) (i:Nat):List En:=((List.range i).map λk=>(rF k).en).flatten
def ZI (rF:Nat->DR) (i:Nat):List Int:=((List.range i).map λk=>(rF k).ks).flatten
def EN (rF:Nat->DR) (i:Nat):NR rF (i+1)=NR rF i++(rF i).en:=by simp[NR,yDs]
def EO (rF:Nat->DR) (i:Nat):ZI rF (i+1)=ZI rF i++(rF i).ks:=by simp[ZI,yDs]
theorem JK {rF:Nat->DR} (h:∀i,(rF i).en.length<=2000):∀i,(NR rF i).length<=2000*i
 |0=>yBt _
 |i+1=>by
  have:=JK h i;have:=h i;rw[EN,yBf];omega
theorem JL {rF:Nat->DR} (h:∀i,(rF i).ks.length<=2000):∀i,(ZI rF i).length<=2000*i
 |0=>yBt _
 |i+1=>by
  have:=JL h i;have:=h i;rw[EO,yBf];omega
def eE {α:Type} (n i:Nat) (f g:Nat->α) (hi:i<n):((List.range n).map λk=>if k<i+1 then f k else g k)=((List.range n).map λk=>if k<i then f k else g k).set i (f i):=by
 apply yCs;intro j;rw[yDe,yBh,yBh,yBe,yCy];by_cases hj:j<n
 ·rw[yCe hj];by_cases h:i=j
  ·subst h;rw[yBd Z,yBd hi];simp
  ·rw[yBc h];by_cases h2:j<i
   ·simp[h2,show j<i+1 by omega]
   ·simp[h2,show¬j<i+1 by omega]
 ·rw[yB6 wU];by_cases h:i=j
  ·omega
  ·simp[h]
def cF {α:Type} (n i:Nat) (f g:Nat->α) (hi:i<n):((List.range n).map λk=>if k<i then f k else g k)[i]? =some (g i):=by
 rw[yBh,yCe hi];simp
def eI {α:Type} (n:Nat) (f g:Nat->α):((List.range n).map λk=>if k<n then f k else g k)=(List.range n).map f:=by
 apply yEt;intro k hk;rw[yBd (yBz.1 hk)]
def EP {l:List Ag} (h:FD l) {i j:Nat} (hij:i<=j) (hj:j<=l.length):jP l i<=jP l j:=by
 induction j with
 |zero=>rw[show i=0 by omega];exact yC8 _
 | succ j ih=>
  by_cases h1:i=j+1
  ·rw[h1];exact yC8 _
  ·have h2:=ih zB zB;have h3:=h.at (i:=j) zB
   show jP l i<=jP l j+(l.getD j default).ses
   omega
theorem zE8 (c:Cf) (hw:FD c.ags) (now:Int) (n0:0<=now) (n1:now<=1073741824) (ds:List xH) (hdl:ds.length=c.ags.length) (hI:∀i,i<ds.length->uW c (ds.getD i default)) (ins:List In) (hil:(ins.length:Int)=jP c.ags c.ags.length)
  (rF:Nat->DR) (hen:∀i,(rF i).en.length<=2000) (hks:∀i,(rF i).ks.length<=2000) (hr:∀i,i<ds.length->zO 94 [wN c,zI (GR (ds.getD i default) now),zD jR (owI c ins i),iA now] [] (drT (rF i)) [])
  (A B C:List AV) (a2 a3 a4:Nat) (vw:List Vw):
  zO 153 [aI c false now (.ref 1011 0 (ds.map zI).length) (.ref 1012 0 a2) (.ref 1013 0 a3) (.ref 1014 0 a4) (zD vQ vw),zD jR ins] [(1011,.arr 17 (ds.map zI) false),(1012,.arr 5 A false),(1013,.arr 3 B false),(1014,.arr 1 C false)]
   (.tup [.sl false ((List.range ds.length).map λk=>rpA (rF k)),zD gF (NR rF ds.length),zD iA (ZI rF ds.length)]) [(1011,.arr 17 ((SF now ds rF ds.length).map zI) false),(1012,.arr 5 A false),(1013,.arr 3 B false),(1014,.arr 1 C false)]:=by
 have hdm:=zA zI ds;have hal:=zA vB c.ags;have hn4:=hw.1;have hbl:∀i,(bgL now ds i).length=ds.length:=λi=>vA _ _ _
 have hbm:∀i,((bgL now ds i).map zI).length=ds.length:=λi=>by rw[yBe,hbl]
 have hb0:bgL now ds 0=ds:=jC _ _;unfold aI;refine eM call153 λF hF=>?_
 refine WW ?_;refine zN (ds.length) [1011,2,3,1012,1013,1014] [2,3,1012,1013,1014] [2,3,21,57] [22,2,3,21,57] Z (λi T U=>⟨(22,iA i)::T,(1011,.arr 17 ((bgL now ds i).map zI) false)::U⟩) ?_;(conv=>whnf);refine⟨by(rw[hb0];rfl),?_,?_⟩
 ·intro i hi
  have hy:((bgL now ds i).map zI)[i]? =some (zI (ds.getD i default)):=by
   rw[yBh];unfold bgL;rw[uP,yBd hi,yBc (yFf i)];rfl
  have e:(bgL now ds (i+1)).map zI=((bgL now ds i).map zI).set i (zI (GR (ds.getD i default) now)):=by unfold bgL;rw[qN _ _ _ _ hi]
  have kb:=zNy (hI i hi) now;have hxl:=hbm i;rw[e];clear e hr hI hb0;generalize GR (ds.getD i default) now=d2 at *;generalize ds.getD i default=d1 at *;generalize (bgL now ds i).map zI=X at *;refine zW kb ?_;rfl
 ·have hbn:(bgL now ds ds.length).map zI=(SF now ds rF 0).map zI:=by
   congr 1
   unfold SF;apply yCs;intro j;unfold bgL;rw[uP,yBh];by_cases hj:j<ds.length
   ·rw[yBd hj,yBd hj,yCe hj];simp
   ·rw[yBc hj,yB6 wU];rfl
  rw[hbn];refine WW ?_;have hmin:min (ds.length:Int) (c.ags.length:Int)=(ds.length:Int):=by rw[hdl];exact yHp _
  rw[hdm,hal,hmin]
  have hr0:rpL ds.length rF 0=List.replicate ds.length (.s (.slice none 0 0)):=by
   unfold rpL;apply yCs;intro j;rw[yBh,yC7];by_cases hj:j<ds.length
   ·rw[yCe hj,yBd hj];simp
   ·rw[yBc hj,yB6 wU];rfl
  have hrl:∀i,(rpL ds.length rF i).length=ds.length:=λi=>by unfold rpL;rw[yBe,yCy]
  have htl:∀i,((SF now ds rF i).map zI).length=ds.length:=λi=>by unfold SF;rw[yBe,yBe,yCy]
  refine xC 9 1042 3 Z Z Z ?_;refine xC 10 1043 1 Z Z Z ?_;refine zN (ds.length) [41,1011,1042,1043,2,3,1012,1013,1014] [2,3,1012,1013,1014] [2,3,8,49,57] [9,10,50,2,3,8,49,57] Z (λi T U=>⟨(9,.ref 1042 0 ((NR rF i).map gF).length)::(10,.ref 1043 0 ((ZI rF i).map iA).length)::(50,iA i)::T,(41,.arr 1 (rpL ds.length rF i) false)::(1011,.arr 17 ((SF now ds rF i).map zI) false)::(1042,.arr 3 ((NR rF i).map gF) true)::(1043,.arr 1 ((ZI rF i).map iA) true)::U⟩) ?_;(conv=>whnf);refine⟨by(rw[hr0];rfl),?_,?_⟩
  ·intro i hi;have hic:i<c.ags.length:=by omega
   have hy:((SF now ds rF i).map zI)[i]? =some (zI (GR (ds.getD i default) now)):=by
    rw[yBh];unfold SF;rw[cF _ _ _ _ hi];rfl
   have e1:(SF now ds rF (i+1)).map zI=((SF now ds rF i).map zI).set i (zI (rF i).d):=by
    unfold SF;rw[eE _ _ _ _ hi,yDa]
   have e2:rpL ds.length rF (i+1)=(rpL ds.length rF i).set i (rpA (rF i)):=by
    unfold rpL;rw[eE _ _ _ _ hi]
   have hyr:(rpL ds.length rF i)[i]? =some (.s (.slice none 0 0)):=by
    unfold rpL;exact cF _ _ _ _ hi
   have hxl:=htl i;have hrll:=hrl i;have hel:=JK hen i;have hkl:=JL hks i;have hel1:=hen i;have hkl1:=hks i;have hem:=zA gF (NR rF i);have hkm:=zA iA (ZI rF i);have hem1:=zA gF (rF i).en;have hkm1:=zA iA (rF i).ks;have ks:=zC9 c i;have kd:=hr i hi;have ht:=zI7 c hw i hic;rw[e1,e2,EN,EO,yBn,yBn];clear e1 e2 hr hI hb0 hr0 hbn;unfold drT tkT at kd
   change zO 94 [_,_,_,_] [] (.tup [_,rpA (rF i),_,_]) []at kd
   generalize GR (ds.getD i default) now=D1 at *;generalize (rF i).d=D2 at *;rw[show rpA (rF i)= .sl false ((rF i).R.map ZF)from Z]at *; generalize (rF i).R.map ZF=R2 at *;generalize (SF now ds rF i).map zI=X at *;generalize rpL ds.length rF i=Y at *;generalize (NR rF i).map gF=En1 at *;generalize (ZI rF i).map iA=Ks1 at *;rw[show zD gF (rF i).en= .sl false ((rF i).en.map gF)from Z,show zD iA (rF i).ks= .sl false ((rF i).ks.map iA)from Z]at kd;unfold zD at kd;unfold zI wF at hy kd⊢;unfold zFc at ks ht;unfold wN at ks kd;refine zW ks ?_;obtain⟨bs,hbs⟩:∃bs:Nat,jP c.ags i=(bs:Int):=⟨(jP c.ags i).toNat,by have:=jG hw i zB;omega⟩;obtain⟨N,hN⟩:∃N:Nat,(c.ags.getD i default).ses=(N:Int):=⟨(c.ags.getD i default).ses.toNat,by have:=hw.at (i:=i) zB;omega⟩
   have hbd:bs+N<=ins.length:=by
    have:=EP hw (show i+1<=c.ags.length by omega) (yBg _);have h2:jP c.ags (i+1)=jP c.ags i+(c.ags.getD i default).ses:=rfl;omega
   have hN2:=hw.at (i:=i) zB;have hL:JN c i=(List.range N).map λk=>[plA i k (bs+k)]:=by unfold JN;rw[hbs,hN];rfl
   rw[show owI c ins i=owP ins bs N by unfold owI;rw[hbs,hN];rfl]at kd;rw[hN]at hN2;have hil2:=zA jR ins;refine uI 12 0 1041 2 Z Z Z Z Z ?_
   refine uH hF ht Z [2,3,12,41,1011,1012,1013,1014,1041,1042,1043] [2,3,8,9,10,11,12,49,50] Z Z Z Z Z Z Z Z Z (λk ys h=>?_) (λk=>[(2,.box [zD wE c.js,zD vB c.ags,iA c.per,iA c.cap,iA c.hold,iA c.lock,bA false,iA now,.ref 1011 0 ds.length,.ref 1012 0 a2,.ref 1013 0 a3,.ref 1014 0 a4,zD vQ vw]),(3,.box [zD jR ins]),(12,.box [.ref 1041 0 ((owP ins bs k).map jR).length]),(41,.arr 1 Y false),(1011,.arr 17 X false),(1012,.arr 5 A false),(1013,.arr 3 B false),(1014,.arr 1 C false),(1041,.arr 2 ((owP ins bs k).map jR) true),(1042,.arr 3 En1 true),(1043,.arr 1 Ks1 true)]) (λ_=>True)
    (T:=[(2,.ptr 2 0 0),(3,.ptr 3 0 0),(8,.ref 41 0 ds.length),(9,.ref 1042 0 En1.length),(10,.ref 1043 0 Ks1.length),(11,iA i),(12,.ptr 12 0 0),(49,iA ds.length),(50,iA i)]) Z trivial (λk ys y hys hI F1 h1 h2=>?_) (λhI=>?_)
   ·rw[hL,yBh,yBs]at h;obtain⟨x,_,rfl⟩:=h;rfl
   ·have hk:k<N:=by
     have:=(yB0.1 hys).1;rw[hL,yBe,yCy]at this;exact this
    rw[hL,yBh,yCe hk]at hys;obtain rfl:=yDy hys;have hyi:=zM jR ins (bs+k) zB;have hol:((owP ins bs k).map jR).length=k:=by unfold owP;rw[yBe,yBe,yCy]
    rw[zIr,yBn];generalize (owP ins bs k).map jR=O at *;generalize ins.getD (bs+k) default=x at *;rw[show [x].map jR=[.agg [bA x.opn,zD vC x.its]]from Z];unfold jR at hyi;refine WW ?_;refine⟨rfl,λF2 g1 g2=>?_⟩;refine WW ?_;exact⟨rfl,trivial⟩
   ·rw[show(JN c i).length=N by rw[hL,yBe,yCy]];generalize owP ins bs N=O at*
    show vO _ _ _ _ ⟨_,_⟩ _
    refine kG [2,3,12,41,1011,1012,1013,1014,1042,1043] [2,3,8,9,10,11,12,49,50] Z ?_
    (conv=>whnf)
    simp only[yCg,yBj];clear ks ht hL hN hN2;refine zW kd ?_;rfl
  ·rw[rpL,eI];refine WW ?_;refine zH [1011,1012,1013,1014] Z Z ?_ Z
   show AV.tup [.sl false (List.take ds.length (List.map (λk=>rpA (rF k)) (List.range ds.length))),.sl false (List.take ((NR rF ds.length).map gF).length ((NR rF ds.length).map gF)),.sl false (List.take ((ZI rF ds.length).map iA).length ((ZI rF ds.length).map iA))]=_
   rw[yBo (by rw[yBe,yCy];exact yBg _),yBj,yBj];rfl
structure JI (j:Jn) (s:Sg) (v:Sv) (now:Int):Prop where
 c:CV j s.c
 n:v.en.length=j.ph.length
 e:∀e∈v.en,-1<=e/\e<=now
 g:0<=v.gr
def zIs (g:Cf) (s:Sv) (l:List Cl) (now:Int) (h:0<=s.gr):0<=(xU g s l now).gr:=by
 unfold xU;split
 ·exact yC8 _
 ·unfold uR;split
  ·exact yC8 _
  ·exact h
def yAk {j:Jn} (J:JV j) {s:Sg} {v:Sv} {now:Int} (n0:0<=now) (H:JI j s v now) (g:Cf) (l:List Cl) (k:Int):JI j (cU g j s v l k now).1 (cU g j s v l k now).2 now:=by
 refine⟨zPk J H.c g v l k now,?_,?_,?_⟩
 ·unfold cU;split
  ·exact(UU _ _).trans H.n
  ·split
   ·exact(UU _ _).trans ((VA ..).trans H.n)
   ·dsimp only;unfold gA;split
    ·exact(VA ..).trans H.n
    ·exact(VA ..).trans H.n
 ·have hd:=zJf g v l now n0 H.e;unfold cU;split
  ·exact PI _ _ n0 H.e
  ·split
   ·exact PI _ _ n0 hd
   ·dsimp only;unfold gA;split
    ·exact hd
    ·exact hd
 ·have hd:=zIs g v l now H.g;unfold cU;split
  ·exact yC8 _
  ·split
   ·exact yC8 _
   ·dsimp only;unfold gA;split
    ·dsimp only;omega
    ·exact hd
theorem zIt:∀(l pre:List Lg),gC pre l=true->∀g∈l,NY g=true
 | [],_,_,g,hg=>by cases hg
 |x::l,pre,h,g,hg=>by
  unfold gC at h;simp only[yBq]at h
  rcases yCk.1 hg with rfl|hg
  ·exact h.1
  ·exact zIt l _ h.2.2 g hg
def zIu {P:Program} {st:St} {T1 T2 T3:Nat} {x y z:Operand} {k:IntKind} {m n l:Int} (hx:yK (zG st.tm) x= .s (.int k m)) (hy:yK (zG st.tm) y= .s (.int k n)) (hz:yK (zG st.tm) z= .s (.int k l)):wP P st (.call ⟨.builtin .min, #[x,y,z], #[T1,T2,T3]⟩) (.s (.int k (min (min m n) l))) [] [] []:=
 yN λoo X tm h w β a ho hg hr HH Ht=>by
  obtain⟨dst,op',type,pos,after,guard⟩:=oo;dsimp only at ho;subst ho;have h1:=vI Ht hg (x:=x) qT hx;have h2:=vI Ht hg (x:=y) qT hy;have h3:=vI Ht hg (x:=z) qT hz;refine⟨.int k (min (min m n) l),?_,.fz _ _ (.s _)⟩;have e1:(if n<m then n else m)=min m n:=by omega
  have e2:(if l<min m n then l else min m n)=min (min m n) l:=by omega
  simp[execOp,resolve,invoke,builtin,Builtin.min_,Builtin.min2,h1,h2,h3,e1,e2]
def zIv {P:Program} {st:St} {op:Op} {v:AV} {d:List (Nat×xM)} {r nw:List Nat} (hs:wP P st op v d r nw) (hr:(yT d).all (r.contains ·)=true) (he:(yT d).map (zC st.h)=(yT d).map (zC d)):wP P st op v [] r nw:=
 ⟨λX tm h hg hh hn=>by
  have h1:=hs.run X tm h hg hh hn
  have e:over d h=over [] h:=funext λk=>by
   unfold over
   cases hk:zC d k with
   |none=>rfl
   |some e=>
    have hm:=vS hk;obtain⟨i,hi⟩:=yE4 hm;have e1:=yB8 (·[i]?) he;have e2:zC st.h k=zC d k:=by simpa [hi]using e1
    have e3:=hh k (by have:=yBr.1 hr k hm;simpa using this)
    show some e=h k
    rw[e3,e2,hk]
  rwa [e]at h1⟩
def zIw {ag j:Int} {x:Rq} {c:Cl} (h:c∈MC ag j x) (hx:RqO x) {now:Int} (n0:0<=now) (hs:∀g∈x.legs,g.sc<=now):(0<=c.k/\c.k<=3)/\(0<=c.si/\c.si<=now):=by
 unfold MC at h;split at h
 ·cases h
 ·split at h
  ·cases h
  ·rename_i h1;rw[yCf]at h;subst h;dsimp only;refine⟨⟨hx.c0,hx.c1⟩,?_⟩;by_cases hi:(XE (λr:Lg=>r.jn==j) x.legs).toNat<x.legs.length
   ·have hm:=zS x.legs _ hi;have hl:=hx.lg;unfold MM at hl;rw[yBq]at hl;have:=hs _ hm;have hv:=zIt _ _ hl.2 _ hm;generalize x.legs.getD (XE (λr:Lg=>r.jn==j) x.legs).toNat default=g at *;unfold NY at hv;rw[yBi]at hv;omega
   ·rw[yBl,yB6 zB]
    show(0:Int)<=0/\(0:Int)<=now
    omega
def zIx {c:Cf} {j:Int} {ds:List xH} (hI:∀d∈ds,uW c d) {now:Int} (n0:0<=now) (hs:∀d∈ds,FC now d.rq):∀x∈vU j ds,(0<=x.k/\x.k<=3)/\(0<=x.si/\x.si<=now):=λx hx=>by
 unfold vU at hx;obtain⟨y,hy,hx⟩:=yDt.1 hx;obtain⟨d,hd,rfl⟩:=yCc.1 hy;unfold fI at hx;obtain⟨y,hy,hx⟩:=yDt.1 hx;obtain⟨r,hr,rfl⟩:=yCc.1 hy;exact zIw hx ((hI d hd).v.ok r hr) n0 (hs d hd r hr)
theorem LI (j:Int):∀l:List xH,(∀d∈l,d.rq.length<=4)->(vU j l).length<=4*l.length
 | [],_=>yBg _
 |d::l,h=>by
  have h1:=eO d.rg.num j d.rq;have h2:=LI j l (λx hx=>h x MT);have h3:=h d zQ;have e:vU j (d::l)=fI d.rg.num j d.rq++vU j l:=rfl;rw[e,yBf,yBp];omega
def aF (c:Cf) (sg:List Sg) (sv:List Sv) (st:List Int) (ds:List xH) (now:Int) (k:Nat):Sg×Sv:=cU c (c.js.getD k default) (sg.getD k default) (sv.getD k default) (vU (k:Int) ds) (st.getD k default) now
def NS (D:Nat->Sg×Sv) (l:List Sg) (i:Nat):List Sg:=WA (λk _=>(D k).1) l i
def NT (D:Nat->Sg×Sv) (l:List Sv) (i:Nat):List Sv:=WA (λk _=>(D k).2) l i
def JM (l:List Int) (i:Nat):List Int:=WA (λ_ _=> -1) l i
def stW (js:List Jn) (D:Nat->Sg×Sv) (n i:Nat):List AV:=(List.range n).map λk=>if k<i then vQ (LJ (js.getD k default) (D k).1 (D k).2)else .agg [bA false,bA false,.s (.slice none 0 0),.s (.slice none 0 0)]
def stH (c:Cf) (now:Int) (ds:List xH) (v:AV) (sg:List Sg) (sv:List Sv) (st:List Int):List (Nat×xM):=
 [(2,.box [zD wE c.js,zD vB c.ags,iA c.per,iA c.cap,iA c.hold,iA c.lock,bA false,iA now,zD zI ds,.ref 1012 0 (sg.map wY).length,.ref 1013 0 (sv.map wV).length,.ref 1014 0 (st.map iA).length,v]),(1012,.arr 5 (sg.map wY) false),(1013,.arr 3 (sv.map wV) false),(1014,.arr 1 (st.map iA) false)]
theorem zIy (c:Cf) (hv:RU c) (now:Int) (n0:0<=now) (n1:now<=1000000000) (ds:List xH) (hd4:ds.length<=4) (hI:∀d∈ds,uW c d) (hs:∀d∈ds,FC now d.rq) (sg:List Sg) (sv:List Sv) (st:List Int) (vw:List Vw)
  (hg:sg.length=c.js.length) (hsv:sv.length=c.js.length) (hst:st.length=c.js.length) (hj:∀k,k<c.js.length->JI (c.js.getD k default) (sg.getD k default) (sv.getD k default) now):
  zO 155 [.ptr 2 0 0] (stH c now ds (zD vQ vw) sg sv st) (.tup [])
   (stH c now ds (.ref 1015 0 c.js.length) (NS (aF c sg sv st ds now) sg c.js.length) (NT (aF c sg sv st ds now) sv c.js.length) (JM st c.js.length)++[(1015,.arr 4 (stW c.js (aF c sg sv st ds now) c.js.length c.js.length) false)]):=by
 have hjl:=zA wE c.js;have hgl:=zA wY sg;have hvl:=zA wV sv;have htl:=zA iA st;have hj4:=hv.j;unfold stH;refine eM call155 λF hF=>?_
 (repeat' (first|refine uC ?_|((first|apply xE|apply xV)<;>intro hc)|(refine zE ?_;first|(refine zE ?_;refine wK (zIu rfl rfl rfl) rfl ?_)|(refine hH ?_;refine dD 1015 tok rfl rfl rfl rfl rfl rfl rfl rfl rfl rfl rfl rfl rfl zB zB rfl rfl rfl ?_))|fail))
 rw[hjl,hgl,hvl,hg,hsv,yHp,yHp]
 (repeat' (first|refine uC ?_|((first|apply xE|apply xV)<;>intro hc)|(refine zE ?_;first|(refine hH ?_;refine dD 1015 tok rfl rfl rfl rfl rfl rfl rfl rfl rfl rfl rfl rfl rfl zB zB rfl rfl rfl ?_))|fail))
 have hw0:∀D,stW c.js D c.js.length 0=List.replicate c.js.length (.agg [bA false,bA false,.s (.slice none 0 0),.s (.slice none 0 0)]):=λD=>by
  unfold stW;apply yCs;intro j;rw[yBh,yC7];by_cases hj:j<c.js.length
  ·rw[yCe hj,yBd hj];simp
  ·rw[yBc hj,yB6 wU];rfl
 have hC:=LI;have hG0:∀D,NS D sg 0=sg:=λD=>jC _ _
 have hV0:∀D,NT D sv 0=sv:=λD=>jC _ _
 have hK0:JM st 0=st:=jC _ _;have hgn:∀D i,((NS D sg i).map wY).length=c.js.length:=λD i=>by unfold NS;rw[yBe,vA,hg]
 have hvn:∀D i,((NT D sv i).map wV).length=c.js.length:=λD i=>by unfold NT;rw[yBe,vA,hsv]
 have hkn:∀i,((JM st i).map iA).length=c.js.length:=λi=>by unfold JM;rw[yBe,vA,hst]
 have hwn:∀D i,(stW c.js D c.js.length i).length=c.js.length:=λD i=>by unfold stW;rw[yBe,yCy]
 rw[htl,hst,hgn,hvn,hkn];refine zN (c.js.length) [1012,1013,1014,1015,2] [2] [0,28] [29,0,28] rfl (λi T U=>⟨(29,iA i)::T,(1012,.arr 5 ((NS (aF c sg sv st ds now) sg i).map wY) false)::(1013,.arr 3 ((NT (aF c sg sv st ds now) sv i).map wV) false)::(1014,.arr 1 ((JM st i).map iA) false)::(1015,.arr 4 (stW c.js (aF c sg sv st ds now) c.js.length i) false)::U⟩) ?_;(conv=>whnf);refine⟨by(rw[hG0,hV0,hK0,hw0];rfl),?_,?_⟩
 ·intro i hi;have hyj:=zM wE c.js i hi;have hyg:((NS (aF c sg sv st ds now) sg i).map wY)[i]? =some (wY (sg.getD i default)):=by rw[yBh];unfold NS;rw[uP,yBd zB,yBc (yFf i)];rfl
  have hyv:((NT (aF c sg sv st ds now) sv i).map wV)[i]? =some (wV (sv.getD i default)):=by rw[yBh];unfold NT;rw[uP,yBd zB,yBc (yFf i)];rfl
  have hyk:((JM st i).map iA)[i]? =some (iA (st.getD i default)):=by rw[yBh];unfold JM;rw[uP,yBd zB,yBc (yFf i)];rfl
  have hyw:(stW c.js (aF c sg sv st ds now) c.js.length i)[i]? =some (.agg [bA false,bA false,.s (.slice none 0 0),.s (.slice none 0 0)]):=cF _ _ _ _ hi;have eg:(NS (aF c sg sv st ds now) sg (i+1)).map wY=((NS (aF c sg sv st ds now) sg i).map wY).set i (wY (aF c sg sv st ds now i).1):=by unfold NS;rw[qN _ _ _ _ zB]
  have ev:(NT (aF c sg sv st ds now) sv (i+1)).map wV=((NT (aF c sg sv st ds now) sv i).map wV).set i (wV (aF c sg sv st ds now i).2):=by unfold NT;rw[qN _ _ _ _ zB]
  have ek:(JM st (i+1)).map iA=((JM st i).map iA).set i (iA (-1)):=by unfold JM;rw[qN _ _ _ _ zB]
  have ew:stW c.js (aF c sg sv st ds now) c.js.length (i+1)=(stW c.js (aF c sg sv st ds now) c.js.length i).set i (vQ (LJ (c.js.getD i default) (aF c sg sv st ds now i).1 (aF c sg sv st ds now i).2)):=eE _ _ _ _ hi;have J:=hv.jv _ (zS c.js i hi);have H:=hj i hi;have cl:(vU (i:Int) ds).length<=4*ds.length:=hC i ds λd hd=>(hI d hd).v.n4
  have cm:=zIx (j:=(i:Int)) hI n0 hs;have hp:=hv.p;have hcp:=hv.cp;have hJn:=J.n;have hHn:=H.n;have HD:DcB c (sv.getD i default) (vU (i:Int) ds) now:=⟨hp.1,zB,zB,n0,n1,H.e,λx hx=>(cm x hx).1,λx hx=>(cm x hx).2,zB,zB⟩
  have kd:zO 190 [wN c,wE (c.js.getD i default),wY (sg.getD i default),wV (sv.getD i default),zD fM (vU (i:Int) ds),iA (st.getD i default),iA now] [] (.tup [wY (aF c sg sv st ds now i).1,wV (aF c sg sv st ds now i).2]) []:=
   zPj c _ J _ H.c _ _ _ now HD (by have:=zIs c (sv.getD i default) (vU (i:Int) ds) now H.g;omega)
  have ko:=zI0 (c.js.getD i default) J (aF c sg sv st ds now i).1 (zPk J H.c _ _ _ _ _) (aF c sg sv st ds now i).2;have kc:=zFb c false now ds i zB (λd hd=>(hI d hd).bd) ((NS (aF c sg sv st ds now) sg i).map wY) ((NT (aF c sg sv st ds now) sv i).map wV) (((JM st i).map iA).set i (iA (-1))) (stW c.js (aF c sg sv st ds now) c.js.length i) c.js.length c.js.length c.js.length c.js.length;have hgl':=hgn (aF c sg sv st ds now) i;have hvl':=hvn (aF c sg sv st ds now) i;have hkl':=hkn i;have hwl':=hwn (aF c sg sv st ds now) i;rw[eg,ev,ek,ew];clear eg ev ek ew hG0 hV0 hK0 hw0 HD cm hC hgn hvn hkn hwn hj H J;generalize (NS (aF c sg sv st ds now) sg i).map wY=X at *;generalize (NT (aF c sg sv st ds now) sv i).map wV=Y at *;generalize (JM st i).map iA=Z' at *;generalize stW c.js (aF c sg sv st ds now) c.js.length i=W at *;generalize aF c sg sv st ds now i=p at *;generalize LJ (c.js.getD i default) p.1 p.2=w at *;generalize vU (i:Int) ds=l at *;generalize sg.getD i default=s at *;generalize sv.getD i default=v at *;generalize st.getD i default=k at *;generalize c.js.getD i default=j at *;have hx1:(X.set i (wY p.1))[i]? =some (wY p.1):=yC0 zB;have hx2:(Y.set i (wV p.2))[i]? =some (wV p.2):=yC0 zB
  (have zc1:=kd;have zc2:=ko;(repeat' (first|refine uC ?_|((first|apply xE|apply xV)<;>intro hc)|(refine zE ?_;first|(refine uF 86 ?_;refine wK (zIv (zL kc rfl rfl rfl rfl rfl) rfl rfl) rfl ?_))|fail))<;>clear zc1 zc2)
  rfl
 ·(refine WW ?_)
  exact kY [2,1012,1013,1014,1015] rfl rfl rfl rfl
end Av
end Go.Proofs.YteajjdidebfcjaaGreat
