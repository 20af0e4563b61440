/- Part 27. -/
import Derived.Test.YteajjdidebfcjaaGreatR26
namespace Go.Proofs.YteajjdidebfcjaaGreat
namespace Av
open Tryz
set_option linter.all false
set_option maxRecDepth 4000
set_option maxHeartbeats 8000000
def GD (f g gr:Int) (ar:List Int):Nat->List Int
 |0=>[]
 |i+1=>(if(i:Int)=f/\0<g then GD f g gr ar i++gV gr else GD f g gr ar i)++gV (ar.getD i default)
def MQ (f g gr:Int) (ar:List Int) (i:Nat):List Int:=if(i:Int)=f/\0<g then GD f g gr ar i++gV gr else GD f g gr ar i
def FK {n:Int} (h:n<128):(gV n).length=1:=by unfold gV;rw[UP h];rfl
def zXi {n:Int} (h:n<16384):(gV n).length<=2:=by
 by_cases h1:n<128
 ·rw[FK h1];omega
 ·unfold gV;rw[IF zB,UP zB];simp
theorem KP (f g gr:Int) (ar:List Int):∀i,(GD f g gr ar i).length<=10*i
 |0=>yAb _
 |i+1=>by
  have:=KP f g gr ar i;have h1:=jK gr;have h2:=jK (ar.getD i default);unfold GD
  split<;>simp only[yAd]<;>omega
def zN6 (f g gr:Int) (ar:List Int) (i:Nat):(MQ f g gr ar i).length<=10*i+5:=by
 have:=KP f g gr ar i;have h1:=jK gr;unfold MQ
 split<;>(try simp only[yAd])<;>omega
theorem zHs {f g gr:Int} (hg:0<=gr/\gr<=4294967295) {ar:List Int} (ha:BU ar):∀i,i<=ar.length->BY (GD f g gr ar i)
 |0,_=>λx hx=>by cases hx
 | i+1,hi=>by
  have ih:=zHs (f:=f) (g:=g) hg ha i zB;have h1:=JU hg.1 hg.2;have h2:=ha (ar.getD i default) (zP ar i zB);have h3:=JU h2.1 h2.2;unfold GD;intro x hx
  rcases yAw.1 hx with hx|hx
  ·split at hx
   ·exact(yAw.1 hx).elim (ih x) (h1 x)
   ·exact ih x hx
  ·exact h3 x hx
def zTo {f g gr:Int} (hg:0<=gr/\gr<=4294967295) {ar:List Int} (ha:BU ar) (i:Nat) (hi:i<=ar.length):BY (MQ f g gr ar i):=by
 have ih:=zHs (f:=f) (g:=g) hg ha i hi;have h1:=JU hg.1 hg.2;unfold MQ;intro x hx;split at hx
 ·exact(yAw.1 hx).elim (ih x) (h1 x)
 ·exact ih x hx
theorem zTp (k f g lo hi sd gr:Int) (ar da:List Int) (c1:zN 103 [iA k] [] (.tup [ZN ⟨0,f,g,lo,hi,sd⟩,bA true]) []) (c2:zN 179 [ZN ⟨0,f,g,lo,hi,sd⟩,iA ((ar.map iA).length:Int)] [] (.tup [iA gr,bA true]) [])
  (hd:sd= -1∨(da.length:Int)=sd) (ha:BU ar) (hal:ar.length<=100) (hg:0<=gr/\gr<=4294967295) (hz:(MQ f g gr ar ar.length++da).length<=200):
  zN 134 [yB ⟨k,[],ar,da⟩] [] (.tup [zD yA (MQ f g gr ar ar.length++da),iA 0]) []:=by
 have c3:=TY [] zU;have hla:=zA iA ar;have hld:=zA yA da;have cg:=zYj gr hg.1 hg.2;have hlg:=zA yA (gV gr);have hvg:=jK gr;have hpl:=KP f g gr ar;have hpg:=zN6 f g gr ar;have hp0:GD f g gr ar 0=[]:=rfl
 have hpG:∀i:Nat,MQ f g gr ar i=if(i:Int)=f/\0<g then GD f g gr ar i++gV gr else GD f g gr ar i:=λ_=>rfl
 have hpS:∀i:Nat,GD f g gr ar (i+1)=MQ f g gr ar i++gV (ar.getD i default):=λ_=>rfl
 have hz3:(MQ f g gr ar ar.length).length+da.length<=200:=by rw[yAd]at hz;exact hz
 have hz:((MQ f g gr ar ar.length).map yA++da.map yA).length<=200:=by rw[yAd]at hz;simp;omega
 have hd3:da.length<=200:=by omega
 rw[show zD yA (MQ f g gr ar ar.length++da)= .sl false (List.take ((MQ f g gr ar ar.length).map yA++da.map yA).length (List.drop 0 ((MQ f g gr ar ar.length).map yA++da.map yA))) by rw[yA9,yAf];unfold zD;rw[yAi]];rw[show yB ⟨k,[],ar,da⟩= .agg [iA k,zD yA [],zD iA ar,zD yA da]from Z];rw[show ZN ⟨0,f,g,lo,hi,sd⟩= .agg [iA 0,iA f,iA g,iA lo,iA hi,iA sd]from Z]at *; generalize MQ f g gr ar=pg at *;generalize GD f g gr ar=py at *;clear hz3
 rcases hd with h2|h2
 all_goals
  refine eM call134 λF hF=>?_
  refine yR (gK c1 c2 c3) ?_
 all_goals
  refine qB 1001 Z ?_;refine xR (ar.length+1) [1001,1,4] [1,4] [1,4,6,64] [7,65,1,4,6,64] Z (λi T U zs=>(i<=ar.length)/\zs=⟨(7,.ref 1001 0 ((py i).map yA).length)::(65,iA i)::T,(1001,.arr 1 ((py i).map yA) true)::U⟩) ?_;(conv=>whnf);refine⟨?_,?_,?_⟩
  ·refine⟨yAp _,?_⟩;rw[hp0];rfl
  ·rintro i st' hi ⟨hik,rfl⟩;have hbl:=hpl i;have hb2:=hpg i;have hg:=hpG i;have hlp:=zA yA (py i);have hlP:=zA yA (pg i)
   have hmG:(pg i).map yA=if(i:Int)=f/\0<g then(py i).map yA++(gV gr).map yA else(py i).map yA:=by
    rw[hg];split
    ·rw[yAi]
    ·rfl
   by_cases hie:i=ar.length
   ·subst hie;clear hpS hg hpl hpg hpG hp0 c1 c2 c3;generalize (py ar.length).map yA=A at *;generalize (pg ar.length).map yA=B at *;generalize gV gr=W at *;by_cases hi1:(ar.length:Int)=f
    ·by_cases hi2:0<g
     ·rw[zZ8 ⟨hi1,hi2⟩]at hmG;subst hmG;refine zV cg ?_;exact zJ
     ·rw[zZ7 (λh=>hi2 h.2)]at hmG;subst hmG;refine WW ?_;exact zJ
    ·rw[zZ7 (λh=>hi1 h.1)]at hmG;subst hmG;refine WW ?_;exact zJ
   have hna:=ha (ar.getD i default) (zP ar i zB);have cv:=zYj (ar.getD i default) hna.1 hna.2;have hy:=zM iA ar i zB;have hS:=hpS i;have hlv:=zA yA (gV (ar.getD i default));have hvv:=jK (ar.getD i default);have hmS:(py (i+1)).map yA=(pg i).map yA++(gV (ar.getD i default)).map yA:=by rw[hS,yAi]
   rw[hmS];clear hS hg hpl hpg hpG hpS hp0 hmS c1 c2 c3 hz ha;generalize (pg ar.length).map yA=E at *;generalize (py i).map yA=A at *;generalize (pg i).map yA=B at *;generalize gV (ar.getD i default)=V at *;generalize ar.getD i default=a at *;generalize gV gr=W at *;by_cases hi1:(i:Int)=f
   ·by_cases hi2:0<g
    ·rw[zZ8 ⟨hi1,hi2⟩]at hmG;subst hmG;refine yR (vH cg cv) ?_;exact⟨zB,rfl⟩
    ·rw[zZ7 (λh=>hi2 h.2)]at hmG;subst hmG;refine zV cv ?_;exact⟨zB,rfl⟩
   ·rw[zZ7 (λh=>hi1 h.1)]at hmG;subst hmG;refine zV cv ?_;exact⟨zB,rfl⟩
  ·rintro st' ⟨hik,rfl⟩;exfalso;omega
def eJ (k:Int):Int×Int×Int×Int×Int:=if k=16 then(1,0,0,0,10)else if k=17∨k=21 then(1,0,0,0,-1)else if k=18 then(1,3,0,16,0)else if k=19 then(0,2,0,4,0)else if k=20 then(4,0,0,0,0)else(2,0,0,0,0)
def zN7 (k:Int) (h:13<=k/\k<=21):zN 103 [iA k] [] (.tup [ZN ⟨0,(eJ k).1,(eJ k).2.1,(eJ k).2.2.1,(eJ k).2.2.2.1,(eJ k).2.2.2.2⟩,bA true]) []:=by
 have:k=13∨k=14∨k=15∨k=16∨k=17∨k=18∨k=19∨k=20∨k=21:=by omega
 rcases this with rfl|rfl|rfl|rfl|rfl|rfl|rfl|rfl|rfl
 all_goals
  refine eM call103 λF hF=>?_
  refine WW ?_;exact zJ
def zHt (f g lo hi sd n gr:Int) (hn:0<=n/\n<=100) (hf:0<=f/\f<=4) (h:(g=0/\n=f/\gr=0)∨((g=2∨g=3)/\n=f+g*gr/\0<=gr/\lo<=gr/\gr<=hi)):zN 179 [ZN ⟨0,f,g,lo,hi,sd⟩,iA n] [] (.tup [iA gr,bA true]) []:=by
 rw[show ZN ⟨0,f,g,lo,hi,sd⟩= .agg [iA 0,iA f,iA g,iA lo,iA hi,iA sd]from Z]
 rcases h with⟨rfl,rfl,rfl⟩|⟨rfl|rfl,he,h0,h1,h2⟩
 ·(refine eM call179 λF hF=>?_)
  refine WW ?_;exact zJ
 ·have hgr:gr=(n-f).tdiv 2:=by
   rw[yB3 zB];omega
  have hm:(n-f).tmod 2=0:=by
   rw[yBw zB];omega
  have hq:XN .i64 ((n-f).tdiv 2):=by
   unfold XN;have e1:IntKind.i64.min= -9223372036854775808:=by decide
   have e2:IntKind.i64.max=9223372036854775807:=by decide
   omega
  have h9:¬n-f<0:=by omega
  subst hgr;clear he;refine eM call179 λF hF=>?_
  refine WW ?_;exact zJ
 ·have hgr:gr=(n-f).tdiv 3:=by
   rw[yB3 zB];omega
  have hm:(n-f).tmod 3=0:=by
   rw[yBw zB];omega
  have hq:XN .i64 ((n-f).tdiv 3):=by
   unfold XN;have e1:IntKind.i64.min= -9223372036854775808:=by decide
   have e2:IntKind.i64.max=9223372036854775807:=by decide
   omega
  have h9:¬n-f<0:=by omega
  subst hgr;clear he;refine eM call179 λF hF=>?_
  refine WW ?_;exact zJ
structure SvM (k:Int) (ar da:List Int):Prop where
 kk:13<=k/\k<=21
 n:BU ar
 l:ar.length<=60
 b:BY da
 d:(eJ k).2.2.2.2= -1∨(da.length:Int)=(eJ k).2.2.2.2
 g:((eJ k).2.1=0/\(ar.length:Int)=(eJ k).1)∨(((eJ k).2.1=2∨(eJ k).2.1=3)/\∃gr:Int,(ar.length:Int)=(eJ k).1+(eJ k).2.1*gr/\0<=gr/\(eJ k).2.2.1<=gr/\gr<=(eJ k).2.2.2.1)
 z:(((ar.map gV).flatten).length+1)+da.length<=200
theorem zCh (f g gr:Int) (hgr:gr<128) (ar:List Int):∀i,i<=ar.length->(GD f g gr ar i).length<=(((ar.take i).map gV).flatten).length+(if f<i then 1 else 0)
 |0,_=>by simp[GD]
 | i+1,hi=>by
  have ih:=zCh f g gr hgr ar i zB;have h1:=FK hgr
  have e:ar.take (i+1)=ar.take i++[ar.getD i default]:=by
   rw[yAg,yAn zB,yCd,yEg zB]
  rw[e,yAi,yFp];unfold GD;simp only[yAd,yBb,yCz,yCp,List.flatten_nil,yBc,yBr];split
  ·rename_i h2;rw[yAd,h1,zZ8 zB];rw[zZ7 zB]at ih;omega
  ·by_cases h3:f<i
   ·rw[zZ8 h3]at ih;rw[zZ8 zB];omega
   ·rw[zZ7 h3]at ih
    split<;>omega
def zN8 (f g gr:Int) (hgr:gr<128) (ar:List Int):(MQ f g gr ar ar.length).length<=((ar.map gV).flatten).length+1:=by
 have ih:=zCh f g gr hgr ar ar.length (yAb _);have h1:=FK hgr;rw[yAf]at ih;unfold MQ;split
 ·rename_i h2;rw[yAd,h1];rw[zZ7 zB]at ih;omega
 ·split at ih<;>omega
def zN9 (f g gr:Int) (ar:List Int) (h:ar≠[]):1<=(MQ f g gr ar ar.length).length:=by
 have h1:0<ar.length:=List.length_pos_iff.2 h;obtain⟨n,hn⟩:∃n,ar.length=n+1:=⟨ar.length-1,zB⟩
 have h2:1<=(GD f g gr ar ar.length).length:=by
  rw[hn];unfold GD;rw[yAd];have:=(jK (ar.getD n default)).1;omega
 unfold MQ;split
 ·rw[yAd];omega
 ·exact h2
def PyF (k:Int) (ar da p:List Int):Prop:=∃gr:Int,(0<=gr/\gr<=100)/\(((eJ k).2.1=0/\(ar.length:Int)=(eJ k).1/\gr=0)∨(((eJ k).2.1=2∨(eJ k).2.1=3)/\(ar.length:Int)=(eJ k).1+(eJ k).2.1*gr/\0<=gr/\(eJ k).2.2.1<=gr/\gr<=(eJ k).2.2.2.1))/\p=MQ (eJ k).1 (eJ k).2.1 gr ar ar.length++da
def zHu {k:Int} {ar da:List Int} (h:SvM k ar da):∃p,(BY p/\PyF k ar da p)/\(p.length<=200/\(ar≠[]->1<=p.length))/\zN 134 [yB ⟨k,[],ar,da⟩] [] (.tup [zD yA p,iA 0]) []:=by
 have hl:=zA iA ar
 have hf:(0<=(eJ k).1/\(eJ k).1<=4)/\(eJ k).2.2.2.1<=16:=by
  have hk:=h.kk;have:k=13∨k=14∨k=15∨k=16∨k=17∨k=18∨k=19∨k=20∨k=21:=by omega
  clear hk h
  rcases this with rfl|rfl|rfl|rfl|rfl|rfl|rfl|rfl|rfl<;>decide
 obtain⟨hf,hh⟩:=hf
 obtain⟨gr,hg1,hg2,hg3⟩:∃gr:Int,(0<=gr/\gr<=100)/\True/\(((eJ k).2.1=0/\((ar.map iA).length:Int)=(eJ k).1/\gr=0)∨(((eJ k).2.1=2∨(eJ k).2.1=3)/\((ar.map iA).length:Int)=(eJ k).1+(eJ k).2.1*gr/\0<=gr/\(eJ k).2.2.1<=gr/\gr<=(eJ k).2.2.2.1)):=by
  rw[hl]
  rcases h.g with⟨g1,g2⟩|⟨g1,gr,g2,g3,g4,g5⟩
  ·exact⟨0,zB,trivial,.inl ⟨g1,g2,rfl⟩⟩
  ·exact⟨gr,zB,trivial,.inr ⟨g1,g2,g3,g4,g5⟩⟩
 have c2:=zHt _ _ (eJ k).2.2.1 (eJ k).2.2.2.1 (eJ k).2.2.2.2 ((ar.map iA).length:Int) gr (by have:=h.l;omega) hf hg3;have hs:=zN8 (eJ k).1 (eJ k).2.1 gr zB ar;have hz:=h.z;refine⟨MQ (eJ k).1 (eJ k).2.1 gr ar ar.length++da,⟨?_,gr,hg1,by rw[hl]at hg3;exact hg3,rfl⟩,?_,zTp k _ _ _ _ _ gr ar da (zN7 k h.kk) c2 h.d h.n (by have:=h.l;omega) zB (by rw[yAd];omega)⟩
 ·intro x hx;exact(yAw.1 hx).elim (zTo zB h.n ar.length (yAb _) x) (h.b x)
 ·refine⟨by rw[yAd];omega,λh9=>?_⟩;have:=zN9 (eJ k).1 (eJ k).2.1 gr ar h9;rw[yAd];omega
def zTq {k:Int} {ar da:List Int} (h:SvM k ar da):zN 195 [yB ⟨k,[],ar,da⟩] [] (bA true) []:=by
 obtain⟨p,_,_,c⟩:=zHu h;rw[show yB ⟨k,[],ar,da⟩= .agg [iA k,zD yA [],zD iA ar,zD yA da]from Z]at *; refine eM call195 λF hF=>?_
 refine zV c ?_;exact zJ
def KQ {k:Int} {ar da:List Int} (h:SvM k ar da):∃p,(BY p/\PyF k ar da p)/\(p.length<=200/\(ar≠[]->1<=p.length))/\zN 97 [yB ⟨k,[],ar,da⟩] [] (.tup [zD yA (frF k p),iA 0]) []:=by
 obtain⟨p,h1,⟨h2,h3⟩,c⟩:=zHu h;have hk:=h.kk;have c2:=zTv k p zB zB h1.1 h2;refine⟨p,h1,⟨h2,h3⟩,?_⟩;generalize frF k p=q at *;rw[show yB ⟨k,[],ar,da⟩= .agg [iA k,zD yA [],zD iA ar,zD yA da]from Z]at *; refine eM call97 λF hF=>?_
 refine yR (vH c c2) ?_;exact zJ
section
def OW (m:Ms):Prop:=m.tok=[]/\SvM m.kind m.args m.data
structure ItK (i:It):Prop where
 y:BY i.pay
 n:i.pay.length<=100000
 k:0<=i.kind/\i.kind<=255
 c:0<=i.code/\i.code<=100
def InS (i:In):Prop:=i.its.length<=1000/\∀x∈i.its,ItK x
theorem InS.b {i:In} (h:InS i):InB i:=⟨h.1,λx hx=>⟨(h.2 x hx).y,(h.2 x hx).n⟩⟩
structure EnK (e:En):Prop where
 a:0<=e.ag/\e.ag<4
 k:0<=e.ki/\e.ki<=255
 c:0<=e.co/\e.co<=100
def fJ (l:List Int):((l.map gV).flatten).length<=5*l.length:=by
 induction l with
 |nil=>simp
 |cons a l ih=>
  have:=(jK a).2;rw[yBb,yCp,yAd,yAl];omega
def sv2 (k a b:Int) (hk:k=13∨k=14∨k=15) (ha:0<=a/\a<=4294967295) (hb:0<=b/\b<=4294967295):OW ⟨k,[],[a,b],[]⟩:=by
 have h:=fJ [a,b];refine⟨rfl,?_⟩;dsimp only
 have hs:eJ k=(2,0,0,0,0):=by rcases hk with rfl|rfl|rfl<;>rfl
 refine⟨zB,.cons ha (.cons hb .nil),by simp,λx hx=>(by cases hx),?_,?_,by simp only[yAl,yBr]at *; omega⟩
 ·rw[hs];exact .inr Z
 ·rw[hs];exact .inl ⟨rfl,rfl⟩
def zTr {c:Cf} {d:yY} (hI:uV c d):BU (gP d.rq):=by
 have ho:=hI.v.ok;generalize d.rq=l at *;intro x hx;unfold gP at hx;obtain⟨y,hy,hx⟩:=yCn.1 hx;obtain⟨r,hr,rfl⟩:=yA5.1 hy;have h:=ho r hr;have h0:=h.i0;have h1:=h.i1;have h2:=h.t0;have h3:=h.t1;simp only[yBd,yDo,yEy]at hx;omega
def zZg {c:Cf} {d:yY} (hI:uV c d) {s now:Int} (n0:0<=now) (n1:now<=1073741824) {i:It} (hK:ItK i) {h:Hd} (hP:HdP c d s i now h):OW h.p:=by
 have hn:=hI.n;by_cases he:h.e=0
 ·obtain⟨a,_,hr⟩:=hP.yes he
  rcases hr with⟨_,e,_⟩|⟨_,e,_⟩|⟨_,e,_⟩|⟨_,k,sec,hk,⟨hs,hy⟩,e⟩|⟨_,x,x0,x1,e⟩
  ·rw[e];exact sv2 13 _ _ (.inl Z) zB zB
  ·have h4:=hI.v.n4;have hb:=zTr hI;have hl:=TG d.rq;have hf:=fJ (gP d.rq);rw[e];refine⟨rfl,by dsimp only[OQ];omega,hb,by dsimp only[OQ];omega,λx hx=>(by cases hx),.inr Z,.inr ⟨.inl Z,(d.rq.length:Int),?_,zB,by show(0:Int)<=_;omega,by show _<=(4:Int);omega⟩,?_⟩
   ·show((gP d.rq).length:Int)=0+2*(d.rq.length:Int)
    omega
   ·show(((gP d.rq).map gV).flatten).length+1+0<=200
    omega
  ·have h8:=hI.t8;have hv:=hI.vh;have hq:=hI.q;have ha:=hI.a.q;have hl:=hI.bl;have hb:=hI.a.b;have hfr:HT d.rg.tk<=8:=by rw[<-h8];exact yCl _ _
   rw[e];have hf:=fJ (cZ d).args;refine⟨rfl,by dsimp only[cZ];omega,.cons zB (.cons zB (.cons zB (.cons zB .nil))),by simp[cZ],λx hx=>(by cases hx),.inr Z,.inl ⟨rfl,rfl⟩,?_⟩
   show(((cZ d).args.map gV).flatten).length+1+0<=200
   have:(cZ d).args.length=4:=rfl;omega
  ·rw[e];have hf:=fJ [(k:Int)];refine⟨rfl,by dsimp only;omega,.cons zB .nil,by simp,?_,.inr ?_,.inl ⟨rfl,rfl⟩,?_⟩
   ·intro x hx;simp only[yBd]at hx
    rcases hx with rfl|rfl|hx
    ·omega
    ·omega
    ·exact hy x hx
   ·show((d.rg.num::(k:Int)::sec).length:Int)=10
    simp only[yAl];omega
   ·show(([(k:Int)].map gV).flatten).length+1+(d.rg.num::(k:Int)::sec).length<=200
    simp only[yAl,yBr]at hf⊢;omega
  ·rw[e];exact sv2 14 _ _ (.inr (.inl Z)) (by have:=hK.k;omega) ⟨x0,x1⟩
 ·have hb:=hP.eb hK.c;rw[(hP.no he).2.1];exact sv2 15 _ _ (.inr (.inr Z)) (by have:=hK.k;omega) zB
def zZh {c:Cf} {d:yY} {s now:Int} {i:It} {h:Hd} (hP:HdP c d s i now h):h.p.kind≠17:=by
 by_cases he:h.e=0
 ·obtain⟨a,_,hr⟩:=hP.yes he
  rcases hr with⟨_,e,_⟩|⟨_,e,_⟩|⟨_,e,_⟩|⟨_,k,sec,hk,⟨hs,hy⟩,e⟩|⟨_,x,x0,x1,e⟩
  all_goals (rw[e];intro h17;revert h17;first|decide|(intro h17;cases h17))
 ·obtain⟨_,e,_⟩:=hP.no he;rw[e];intro h17;cases h17
def GE (now:Int) (l:List Rq):Prop:=∀r∈l,∀g∈r.legs,g.sc<=now
theorem GE.mono {a b:Int} {l:List Rq} (h:GE a l) (hab:a<=b):GE b l:=λr hr g hg=>Int.le_trans (h r hr g hg) hab
theorem GE.of {now:Int} (n0:0<=now) {l l':List Rq} (h:GE now l) (hs:YB l l'):GE now l':=λr hr g hg=>by
 rcases hs r hr g hg with h1|⟨r0,h1,_,g0,h2,_,_,h3⟩
 ·omega
 ·rw[<-h3];exact h r0 h1 g0 h2
theorem GE.mk {now:Int} (n0:0<=now) {l:List Rq} (h:GE now l):GE now (EU l now):=λr hr g hg=>by
 unfold EU at hr;obtain⟨r0,hr0,rfl⟩:=yA5.1 hr;unfold mkR at hg;obtain⟨g0,hg0,rfl⟩:=yA5.1 hg;unfold bD;have:=h r0 hr0 g0 hg0;split
 ·split
  ·exact yB6 _
  ·exact this
 ·show(-1:Int)<=now
  omega
def ScM (now:Int) (l l':List Rq):Prop:=∀q∈l',∀g∈q.legs,g.sc= -1∨g.sc=now∨∃r0∈l,r0.id=q.id/\∃g0∈r0.legs,g0.jn=g.jn/\g0.ph=g.ph/\g0.sc=g.sc
theorem ScM.of {now:Int} {l l1:List Rq} (h:YB l l1):ScM now l (EU l1 now):=λq hq g hg=>by
 unfold EU at hq;obtain⟨r1,hr1,rfl⟩:=yA5.1 hq;unfold mkR at hg⊢;obtain⟨g1,hg1,rfl⟩:=yA5.1 hg;unfold bD;split
 ·split
  ·exact .inr (.inl Z)
  ·exact(h r1 hr1 g1 hg1).imp id .inr
 ·exact .inl Z
theorem zOa (l:List Rq) (now:Int):∀q∈EU l now,∀g∈q.legs,g.sc≠ -1->DE g now=true:=λq hq g hg hs=>by
 unfold EU at hq;obtain⟨r1,hr1,rfl⟩:=yA5.1 hq;unfold mkR at hg;obtain⟨g1,hg1,rfl⟩:=yA5.1 hg;unfold bD at hs⊢;split at hs
 ·rename_i h;rw[zZ8 h];split
  ·exact h
  ·exact h
 ·exact absurd Z hs
theorem zHv {c:Cf} {s:Nat} {now:Int} (n0:0<=now) (n1:now<=1073741824) {its:List It} (hK:∀x∈its,ItK x) {f:Nat->TS} {d:yY} (he:∀e∈(f 0).en,EnK e) (h0:(f 0).rs=[])
  (hs:∀k,k<its.length->StR c (s:Int) now (its.getD k default) (f k) (f (k+1))) (hd:∀k,EM c d (f k).d):∀k,k<=its.length->(∀m∈(f k).rs,OW m/\m.kind≠17)/\(∀e∈(f k).en,EnK e)/\(∀j:Nat,j≠s->(f k).d.au[j]? =(f 0).d.au[j]?)/\YB (f 0).d.rq (f k).d.rq
 |0,_=>⟨λm hm=>(by rw[h0]at hm;cases hm),he,λ_ _=>rfl,YB.refl _⟩
 | k+1,hk=>by
  obtain⟨i1,i2,i3,i4⟩:=zHv n0 n1 hK he h0 hs hd k zB;obtain⟨h,_,hP,hb⟩:=hs k zB;have hI:=(hd k).i;have hit:=hK _ (zP its k zB);have hn:=hI.n;rw[hb];refine⟨λm hm=>?_,λe he=>?_,λj hj=>?_,i4.trans hP.sc⟩
  ·rcases yAw.1 hm with hm|hm
   ·exact i1 m hm
   ·rw[yA8.1 hm];exact⟨zZg hI n0 n1 hit hP,zZh hP⟩
  ·rcases yAw.1 he with he|he
   ·exact i2 e he
   ·rw[yA8.1 he];exact⟨hn,hit.k,hP.eb hit.c⟩
  ·dsimp only;rw[hP.ax j zB,i3 j hj]
structure DR where
 d:yY
 R:List (List Ms)
 en:List En
 ks:List Int
def drT (r:DR):AV:=tkT r.d r.R r.en r.ks
structure DtP (c:Cf) (now:Int) (d:yY) (ins:List In) (r:DR):Prop where
 i:uV c r.d
 ag:r.d.rg.ag=d.rg.ag
 num:r.d.rg.num=d.rg.num
 rn:r.R.length=d.au.length
 rl:∀s,s<d.au.length->(r.R.getD s []).length=(eP ins s).length
 rv:∀l∈r.R,l.length<=1000/\∀m∈l,OW m
 rk:∀l∈r.R,∀m∈l,m.kind≠17
 el:r.en.length<=2000
 en:∀e∈r.en,EnK e
 kl:r.ks.length<=2000
 ks:∀x∈r.ks,0<=x/\x<(c.js.length:Int)
 sc:GE now d.rq->GE now r.d.rq
 lv:∀q∈r.d.rq,∀g∈q.legs,g.sc≠ -1->DE g now=true
 sp:ScM now d.rq r.d.rq
 au:∀s,s<d.au.length->eP ins s=[]->r.d.au[s]? =some (GL ins s (d.au.getD s default))
def zXj {ins:List In} (h:∀i∈ins,InS i) (s:Nat):∀x∈eP ins s,ItK x:=by
 unfold eP;split
 ·rename_i hs;exact(h _ (zP ins s hs.1)).2
 ·exact λx hx=>by cases hx
theorem zHw {c:Cf} {now:Int} (n0:0<=now) (n1:now<=1073741824) {ins:List In} (hin:∀i∈ins,InS i) {d:yY} {zF:Nat->SS} (h0:zF 0=⟨d,[],[],[]⟩) (hz:∀s,EM c d (zF s).d/\SeR c now ins s (zF s) (zF (s+1))):
  ∀s,(zF s).R.length=s/\(∀j,j<s->((zF s).R.getD j []).length=(eP ins j).length)/\(∀l∈(zF s).R,l.length<=1000/\∀m∈l,OW m/\m.kind≠17)/\(∀e∈(zF s).en,EnK e)/\(∀j,(s<=j∨eP ins j=[])->(zF s).d.au[j]? =d.au[j]?)/\YB d.rq (zF s).d.rq
 |0=>by rw[h0];exact⟨rfl,λj hj=>absurd hj (yCj _),λl hl=>(by cases hl),λe he=>(by cases he),λ_ _=>rfl,YB.refl _⟩
 | s+1=>by
  obtain⟨i0,i1,i2,i3,i4,i5⟩:=zHw n0 n1 hin h0 hz s;obtain⟨f,f0,f1,f2,f3⟩:=(hz s).2;have hsb:=(EN (λi hi=>(hin i hi).b) s).1;obtain⟨r1,r2,r3,r4⟩:=zHv n0 n1 (zXj hin s) (d:=(zF s).d) (f:=f) (by rw[f0];exact i3) (by rw[f0]) f1 (λk=>(f2 k).1) _ (yAb _);rw[f3];dsimp only;have hrl:=(f2 (eP ins s).length).2.1;refine⟨by rw[yAd,yC3,i0],λj hj=>?_,λl hl=>?_,r2,λj hj=>?_,i5.trans (by rw[f0]at r4;exact r4)⟩
  ·rw[yAg];by_cases h:j=s
   ·subst h;rw[yA1 zB,i0,yB9];exact hrl
   ·rw[yBe zB,<-yAg];exact i1 j zB
  ·rcases yAw.1 hl with hl|hl
   ·exact i2 l hl
   ·rw[yA8.1 hl];exact⟨zB,r1⟩
  ·by_cases h:j=s
   ·subst h;have he:eP ins j=[]:=hj.elim (λh=>absurd h zB) id;rw[he,yBr,f0];exact i4 j (.inl (yAb _))
   ·rw[r3 j h,f0];exact i4 j (hj.imp (λh=>by omega) id)
def zHx (c:Cf) (d:yY) (hI:uV c d) (ins:List In) (hil:ins.length=d.au.length) (hin:∀i∈ins,InS i) (now:Int) (n0:0<=now) (n1:now<=1073741824):
  ∃r:DR,DtP c now d ins r/\zN 94 [vG c,zI d,zD jG ins,iA now] [] (drT r) []:=by
 have hib:∀i∈ins,InB i:=λi hi=>(hin i hi).b
 have hau:d.au.length=1∨d.au.length=2:=by have:=hI.au;have:=hI.a.e;omega
 obtain⟨zF,z0,hz⟩:=zO3 c now n0 n1 ins hib (dkU d ins) (zX9 hI ins);have hs:=zHw n0 n1 hin z0 (λs=>⟨(hz s).1,(hz s).2.2⟩) d.au.length;obtain⟨hT,⟨_,e2,e3,e4⟩,_⟩:=hz d.au.length;refine⟨⟨dkM (zF d.au.length).d now,(zF d.au.length).R,(zF d.au.length).en,(zF d.au.length).ks⟩,⟨zYa hT.i now n0 n1,hT.a,hT.n,hs.1,hs.2.1,λl h=>⟨(hs.2.2.1 l h).1,λm hm=>((hs.2.2.1 l h).2 m hm).1⟩,λl h m hm=>((hs.2.2.1 l h).2 m hm).2,by dsimp only;omega,hs.2.2.2.1,by dsimp only;omega,e4,λh9=>GE.mk n0 (GE.of n0 h9 hs.2.2.2.2.2),zOa _ _,ScM.of hs.2.2.2.2.2,λs hsl he=>?_⟩,?_⟩
 ·show(zF d.au.length).d.au[s]? =_
  rw[hs.2.2.2.2.1 s (.inr he)]
  show(auF ins d.au)[s]? =_
  unfold auF;rw[vQ,zZ8 hsl,zZ8 hsl]
 ·show zN 94 [vG c,zI d,zD jG ins,iA now] [] (tkT (dkM (zF d.au.length).d now) (zF d.au.length).R (zF d.au.length).en (zF d.au.length).ks) []
  rcases hau with hn|hn
  ·rw[hn];exact zEp hI ins zB hib now n0 n1 zF z0 hn zB hz
  ·rw[hn];exact zEq hI ins zB hib now n0 n1 zF z0 hn zB hz
open Classical in
noncomputable def YD (c:Cf) (d:yY) (ins:List In) (now:Int):DR:=if h:∃r:DR,DtP c now d ins r/\zN 94 [vG c,zI d,zD jG ins,iA now] [] (drT r) []then h.choose else⟨default,[],[],[]⟩
def zEc (c:Cf) (d:yY) (hI:uV c d) (ins:List In) (hil:ins.length=d.au.length) (hin:∀i∈ins,InS i) (now:Int) (n0:0<=now) (n1:now<=1073741824):
  DtP c now d ins (YD c d ins now)/\zN 94 [vG c,zI d,zD jG ins,iA now] [] (drT (YD c d ins now)) []:=by
 have h:=zHx c d hI ins hil hin now n0 n1;unfold YD;rw[dif_pos h];exact h.choose_spec
def FL (c:Cf) (d:yY) (ins:List In) (now:Int):(YD c d ins now).en.length<=2000/\(YD c d ins now).ks.length<=2000:=by
 unfold YD;split
 ·rename_i h;have:=h.choose_spec.1;exact⟨this.el,this.kl⟩
 ·exact⟨yAp _,yAp _⟩
end
def AR (ins:List In) (b k:Nat):List In:=(List.range k).map λj=>ins.getD (b+j) default
def zHy (ins:List In) (b k:Nat):AR ins b (k+1)=AR ins b k++[ins.getD (b+k) default]:=by simp[AR,yCm]
def owI (c:Cf) (ins:List In) (a:Nat):List In:=AR ins (qE c.ags a).toNat (c.ags.getD a default).ses.toNat
def rpA (r:DR):AV:=zD bZ r.R
def bgL (now:Int) (ds:List yY) (i:Nat):List yY:=bB (λ_ d=>JT d now) ds i
def TL (now:Int) (ds:List yY) (rF:Nat->DR) (i:Nat):List yY:=(List.range ds.length).map λk=>if k<i then(rF k).d else JT (ds.getD k default) now
def rpL (n:Nat) (rF:Nat->DR) (i:Nat):List AV:=(List.range n).map λk=>if k<i then rpA (rF k)else .s (.slice none 0 0)
def OX (rF:Nat->DR) (i:Nat):List En:=((List.range i).map λk=>(rF k).en).flatten
def aQ (rF:Nat->DR) (i:Nat):List Int:=((List.range i).map λk=>(rF k).ks).flatten
def FM (rF:Nat->DR) (i:Nat):OX rF (i+1)=OX rF i++(rF i).en:=by simp[OX,yCm]
def FN (rF:Nat->DR) (i:Nat):aQ rF (i+1)=aQ rF i++(rF i).ks:=by simp[aQ,yCm]
theorem KR {rF:Nat->DR} (h:∀i,(rF i).en.length<=2000):∀i,(OX rF i).length<=2000*i
 |0=>yAp _
 |i+1=>by
  have:=KR h i;have:=h i;rw[FM,yAd];omega
theorem KS {rF:Nat->DR} (h:∀i,(rF i).ks.length<=2000):∀i,(aQ rF i).length<=2000*i
 |0=>yAp _
 |i+1=>by
  have:=KS h i;have:=h i;rw[FN,yAd];omega
def fK {α:Type} (n i:Nat) (f g:Nat->α) (hi:i<n):((List.range n).map λk=>if k<i+1 then f k else g k)=((List.range n).map λk=>if k<i then f k else g k).set i (f i):=by
 apply yBi;intro j;rw[yB8,yAa,yAa,zZ9,yBp];by_cases hj:j<n
 ·rw[yA4 hj];by_cases h:i=j
  ·subst h;rw[zZ8 Z,zZ8 hi];simp
  ·rw[zZ7 h];by_cases h2:j<i
   ·simp[h2,show j<i+1 by omega]
   ·simp[h2,show¬j<i+1 by omega]
 ·rw[yAz vA];by_cases h:i=j
  ·omega
  ·simp[h]
def dM {α:Type} (n i:Nat) (f g:Nat->α) (hi:i<n):((List.range n).map λk=>if k<i then f k else g k)[i]? =some (g i):=by
 rw[yAa,yA4 hi];simp
def fL {α:Type} (n:Nat) (f g:Nat->α):((List.range n).map λk=>if k<n then f k else g k)=(List.range n).map f:=by
 apply yDk;intro k hk;rw[zZ8 (yAt.1 hk)]
def FO {l:List Ag} (h:AgW l) {i j:Nat} (hij:i<=j) (hj:j<=l.length):qE l i<=qE l j:=by
 induction j with
 |zero=>rw[show i=0 by omega];exact yB6 _
 | succ j ih=>
  by_cases h1:i=j+1
  ·rw[h1];exact yB6 _
  ·have h2:=ih zB zB;have h3:=h.at (i:=j) zB
   show qE l i<=qE l j+(l.getD j default).ses
   omega
theorem zEd (c:Cf) (hw:AgW c.ags) (now:Int) (n0:0<=now) (n1:now<=1073741824) (ds:List yY) (hdl:ds.length=c.ags.length) (hI:∀i,i<ds.length->uV c (ds.getD i default)) (ins:List In) (hil:(ins.length:Int)=qE c.ags c.ags.length)
  (rF:Nat->DR) (hen:∀i,(rF i).en.length<=2000) (hks:∀i,(rF i).ks.length<=2000) (hr:∀i,i<ds.length->zN 94 [vG c,zI (JT (ds.getD i default) now),zD jG (owI c ins i),iA now] [] (drT (rF i)) [])
  (A B C:List AV) (a2 a3 a4:Nat) (vw:List Vw):
  zN 153 [bP c false now (.ref 1011 0 (ds.map zI).length) (.ref 1012 0 a2) (.ref 1013 0 a3) (.ref 1014 0 a4) (zD vO vw),zD jG ins] [(1011,.arr 17 (ds.map zI) false),(1012,.arr 5 A false),(1013,.arr 3 B false),(1014,.arr 1 C false)]
   (.tup [.sl false ((List.range ds.length).map λk=>rpA (rF k)),zD jP (OX rF ds.length),zD iA (aQ rF ds.length)]) [(1011,.arr 17 ((TL now ds rF ds.length).map zI) false),(1012,.arr 5 A false),(1013,.arr 3 B false),(1014,.arr 1 C false)]:=by
 have hdm:=zA zI ds;have hal:=zA wK c.ags;have hn4:=hw.1;have hbl:∀i,(bgL now ds i).length=ds.length:=λi=>wP _ _ _
 have hbm:∀i,((bgL now ds i).map zI).length=ds.length:=λi=>by rw[zZ9,hbl]
 have hb0:bgL now ds 0=ds:=qR _ _;unfold bP;refine eM call153 λF hF=>?_
 refine WW ?_;refine zO (ds.length) [1011,2,3,1012,1013,1014] [2,3,1012,1013,1014] [2,3,21,57] [22,2,3,21,57] Z (λi T U=>⟨(22,iA i)::T,(1011,.arr 17 ((bgL now ds i).map zI) false)::U⟩) ?_;(conv=>whnf);refine⟨by(rw[hb0];rfl),?_,?_⟩
 ·intro i hi
  have hy:((bgL now ds i).map zI)[i]? =some (zI (ds.getD i default)):=by
   rw[yAa];unfold bgL;rw[vQ,zZ8 hi,zZ7 (yDx i)];rfl
  have e:(bgL now ds (i+1)).map zI=((bgL now ds i).map zI).set i (zI (JT (ds.getD i default) now)):=by unfold bgL;rw[uR _ _ _ _ hi]
  have kb:=zJv (hI i hi) now;have hxl:=hbm i;rw[e];clear e hr hI hb0;generalize JT (ds.getD i default) now=d2 at *;generalize ds.getD i default=d1 at *;generalize (bgL now ds i).map zI=X at *;refine zV kb ?_;rfl
 ·have hbn:(bgL now ds ds.length).map zI=(TL now ds rF 0).map zI:=by
   congr 1
   unfold TL;apply yBi;intro j;unfold bgL;rw[vQ,yAa];by_cases hj:j<ds.length
   ·rw[zZ8 hj,zZ8 hj,yA4 hj];simp
   ·rw[zZ7 hj,yAz vA];rfl
  rw[hbn];refine WW ?_;have hmin:min (ds.length:Int) (c.ags.length:Int)=(ds.length:Int):=by rw[hdl];exact yGh _
  rw[hdm,hal,hmin]
  have hr0:rpL ds.length rF 0=List.replicate ds.length (.s (.slice none 0 0)):=by
   unfold rpL;apply yBi;intro j;rw[yAa,yB2];by_cases hj:j<ds.length
   ·rw[yA4 hj,zZ8 hj];simp
   ·rw[zZ7 hj,yAz vA];rfl
  have hrl:∀i,(rpL ds.length rF i).length=ds.length:=λi=>by unfold rpL;rw[zZ9,yBp]
  have htl:∀i,((TL now ds rF i).map zI).length=ds.length:=λi=>by unfold TL;rw[zZ9,zZ9,yBp]
  refine yZ 9 1042 3 Z Z Z ?_;refine yZ 10 1043 1 Z Z Z ?_;refine zO (ds.length) [41,1011,1042,1043,2,3,1012,1013,1014] [2,3,1012,1013,1014] [2,3,8,49,57] [9,10,50,2,3,8,49,57] Z (λi T U=>⟨(9,.ref 1042 0 ((OX rF i).map jP).length)::(10,.ref 1043 0 ((aQ rF i).map iA).length)::(50,iA i)::T,(41,.arr 1 (rpL ds.length rF i) false)::(1011,.arr 17 ((TL now ds rF i).map zI) false)::(1042,.arr 3 ((OX rF i).map jP) true)::(1043,.arr 1 ((aQ rF i).map iA) true)::U⟩) ?_;(conv=>whnf);refine⟨by(rw[hr0];rfl),?_,?_⟩
  ·intro i hi;have hic:i<c.ags.length:=by omega
   have hy:((TL now ds rF i).map zI)[i]? =some (zI (JT (ds.getD i default) now)):=by
    rw[yAa];unfold TL;rw[dM _ _ _ _ hi];rfl
   have e1:(TL now ds rF (i+1)).map zI=((TL now ds rF i).map zI).set i (zI (rF i).d):=by
    unfold TL;rw[fK _ _ _ _ hi,yB4]
   have e2:rpL ds.length rF (i+1)=(rpL ds.length rF i).set i (rpA (rF i)):=by
    unfold rpL;rw[fK _ _ _ _ hi]
   have hyr:(rpL ds.length rF i)[i]? =some (.s (.slice none 0 0)):=by
    unfold rpL;exact dM _ _ _ _ hi
   have hxl:=htl i;have hrll:=hrl i;have hel:=KR hen i;have hkl:=KS hks i;have hel1:=hen i;have hkl1:=hks i;have hem:=zA jP (OX rF i);have hkm:=zA iA (aQ rF i);have hem1:=zA jP (rF i).en;have hkm1:=zA iA (rF i).ks;have ks:=zCj c i;have kd:=hr i hi;have ht:=zIf c hw i hic;rw[e1,e2,FM,FN,yAi,yAi];clear e1 e2 hr hI hb0 hr0 hbn;unfold drT tkT at kd
   change zN 94 [_,_,_,_] [] (.tup [_,rpA (rF i),_,_]) []at kd
   generalize JT (ds.getD i default) now=D1 at *;generalize (rF i).d=D2 at *;rw[show rpA (rF i)= .sl false ((rF i).R.map bZ)from Z]at *; generalize (rF i).R.map bZ=R2 at *;generalize (TL now ds rF i).map zI=X at *;generalize rpL ds.length rF i=Y at *;generalize (OX rF i).map jP=En1 at *;generalize (aQ rF i).map iA=Ks1 at *;rw[show zD jP (rF i).en= .sl false ((rF i).en.map jP)from Z,show zD iA (rF i).ks= .sl false ((rF i).ks.map iA)from Z]at kd;unfold zD at kd;unfold zI wC at hy kd⊢;unfold zEh at ks ht;unfold vG at ks kd;refine zV ks ?_;obtain⟨bs,hbs⟩:∃bs:Nat,qE c.ags i=(bs:Int):=⟨(qE c.ags i).toNat,by have:=kY hw i zB;omega⟩;obtain⟨N,hN⟩:∃N:Nat,(c.ags.getD i default).ses=(N:Int):=⟨(c.ags.getD i default).ses.toNat,by have:=hw.at (i:=i) zB;omega⟩
   have hbd:bs+N<=ins.length:=by
    have:=FO hw (show i+1<=c.ags.length by omega) (yAb _);have h2:qE c.ags (i+1)=qE c.ags i+(c.ags.getD i default).ses:=rfl;omega
   have hN2:=hw.at (i:=i) zB;have hL:KU c i=(List.range N).map λk=>[plA i k (bs+k)]:=by unfold KU;rw[hbs,hN];rfl
   rw[show owI c ins i=AR ins bs N by unfold owI;rw[hbs,hN];rfl]at kd;rw[hN]at hN2;have hil2:=zA jG ins;refine uF 12 0 1041 2 Z Z Z Z Z ?_
   refine uE hF ht Z [2,3,12,41,1011,1012,1013,1014,1041,1042,1043] [2,3,8,9,10,11,12,49,50] Z Z Z Z Z Z Z Z Z (λk ys h=>?_) (λk=>[(2,.box [zD wJ c.js,zD wK c.ags,iA c.per,iA c.cap,iA c.hold,iA c.lock,bA false,iA now,.ref 1011 0 ds.length,.ref 1012 0 a2,.ref 1013 0 a3,.ref 1014 0 a4,zD vO vw]),(3,.box [zD jG ins]),(12,.box [.ref 1041 0 ((AR ins bs k).map jG).length]),(41,.arr 1 Y false),(1011,.arr 17 X false),(1012,.arr 5 A false),(1013,.arr 3 B false),(1014,.arr 1 C false),(1041,.arr 2 ((AR ins bs k).map jG) true),(1042,.arr 3 En1 true),(1043,.arr 1 Ks1 true)]) (λ_=>True)
    (T:=[(2,.ptr 2 0 0),(3,.ptr 3 0 0),(8,.ref 41 0 ds.length),(9,.ref 1042 0 En1.length),(10,.ref 1043 0 Ks1.length),(11,iA i),(12,.ptr 12 0 0),(49,iA ds.length),(50,iA i)]) Z trivial (λk ys y hys hI F1 h1 h2=>?_) (λhI=>?_)
   ·rw[hL,yAa,yAo]at h;obtain⟨x,_,rfl⟩:=h;rfl
   ·have hk:k<N:=by
     have:=(yAu.1 hys).1;rw[hL,zZ9,yBp]at this;exact this
    rw[hL,yAa,yA4 hk]at hys;obtain rfl:=yCs hys;have hyi:=zM jG ins (bs+k) zB;have hol:((AR ins bs k).map jG).length=k:=by unfold AR;rw[zZ9,zZ9,yBp]
    rw[zHy,yAi];generalize (AR ins bs k).map jG=O at *;generalize ins.getD (bs+k) default=x at *;rw[show [x].map jG=[.agg [bA x.opn,zD wZ x.its]]from Z];unfold jG at hyi;refine WW ?_;refine⟨rfl,λF2 g1 g2=>?_⟩;refine WW ?_;exact⟨rfl,trivial⟩
   ·rw[show(KU c i).length=N by rw[hL,zZ9,yBp]];generalize AR ins bs N=O at*
    show vK _ _ _ _ ⟨_,_⟩ _
    refine qH [2,3,12,41,1011,1012,1013,1014,1042,1043] [2,3,8,9,10,11,12,49,50] Z ?_
    (conv=>whnf)
    simp only[yA9,yAf];clear ks ht hL hN hN2;refine zV kd ?_;rfl
  ·rw[rpL,fL];refine WW ?_;refine zK [1011,1012,1013,1014] Z Z ?_ Z
   show AV.tup [.sl false (List.take ds.length (List.map (λk=>rpA (rF k)) (List.range ds.length))),.sl false (List.take ((OX rF ds.length).map jP).length ((OX rF ds.length).map jP)),.sl false (List.take ((aQ rF ds.length).map iA).length ((aQ rF ds.length).map iA))]=_
   rw[yAj (by rw[zZ9,yBp];exact yAb _),yAf,yAf];rfl
structure JI (j:Jn) (s:Sg) (v:Sv) (now:Int):Prop where
 c:CV j s.c
 n:v.en.length=j.ph.length
 e:∀e∈v.en,-1<=e/\e<=now
 g:0<=v.gr
def zHz (g:Cf) (s:Sv) (l:List Cl) (now:Int) (h:0<=s.gr):0<=(xQ g s l now).gr:=by
 unfold xQ;split
 ·exact yB6 _
 ·unfold uN;split
  ·exact yB6 _
  ·exact h
theorem zZi {j:Jn} (J:JV j) {s:Sg} {v:Sv} {now:Int} (n0:0<=now) (H:JI j s v now) (g:Cf) (l:List Cl) (k:Int):JI j (cF g j s v l k now).1 (cF g j s v l k now).2 now:=by
 refine⟨zOn J H.c g v l k now,?_,?_,?_⟩
 ·unfold cF;split
  ·exact(UG _ _).trans H.n
  ·split
   ·exact(UG _ _).trans ((XY ..).trans H.n)
   ·dsimp only;unfold jO;split
    ·exact(XY ..).trans H.n
    ·exact(XY ..).trans H.n
 ·have hd:=zIn g v l now n0 H.e;unfold cF;split
  ·exact QR _ _ n0 H.e
  ·split
   ·exact QR _ _ n0 hd
   ·dsimp only;unfold jO;split
    ·exact hd
    ·exact hd
 ·have hd:=zHz g v l now H.g;unfold cF;split
  ·exact yB6 _
  ·split
   ·exact yB6 _
   ·dsimp only;unfold jO;split
    ·dsimp only;omega
    ·exact hd
theorem zH0:∀(l pre:List Lg),jR pre l=true->∀g∈l,NG g=true
 | [],_,_,g,hg=>by cases hg
 |x::l,pre,h,g,hg=>by
  unfold jR at h;simp only[yAk]at h
  rcases yBd.1 hg with rfl|hg
  ·exact h.1
  ·exact zH0 l _ h.2.2 g hg
def zH1 {P:Program} {st:St} {T1 T2 T3:Nat} {x y z:Operand} {k:IntKind} {m n l:Int} (hx:yJ (zG st.tm) x= .s (.int k m)) (hy:yJ (zG st.tm) y= .s (.int k n)) (hz:yJ (zG st.tm) z= .s (.int k l)):wM P st (.call ⟨.builtin .min, #[x,y,z], #[T1,T2,T3]⟩) (.s (.int k (min (min m n) l))) [] [] []:=
 yK λoo X tm h w β a ho hg hr HH Ht=>by
  obtain⟨dst,op',type,pos,after,guard⟩:=oo;dsimp only at ho;subst ho;have h1:=vF Ht hg (x:=x) kH hx;have h2:=vF Ht hg (x:=y) kH hy;have h3:=vF Ht hg (x:=z) kH hz;refine⟨.int k (min (min m n) l),?_,.fz _ _ (.s _)⟩;have e1:(if n<m then n else m)=min m n:=by omega
  have e2:(if l<min m n then l else min m n)=min (min m n) l:=by omega
  simp[execOp,resolve,invoke,builtin,Builtin.min_,Builtin.min2,h1,h2,h3,e1,e2]
def zH2 {P:Program} {st:St} {op:Op} {v:AV} {d:List (Nat×xN)} {r nw:List Nat} (hs:wM P st op v d r nw) (hr:(yO d).all (r.contains ·)=true) (he:(yO d).map (zC st.h)=(yO d).map (zC d)):wM P st op v [] r nw:=
 ⟨λX tm h hg hh hn=>by
  have h1:=hs.run X tm h hg hh hn
  have e:over d h=over [] h:=funext λk=>by
   unfold over
   cases hk:zC d k with
   |none=>rfl
   |some e=>
    have hm:=vT hk;obtain⟨i,hi⟩:=yDw hm;have e1:=yA6 (·[i]?) he;have e2:zC st.h k=zC d k:=by simpa [hi]using e1
    have e3:=hh k (by have:=yAm.1 hr k hm;simpa using this)
    show some e=h k
    rw[e3,e2,hk]
  rwa [e]at h1⟩
def zH3 {ag j:Int} {x:Rq} {c:Cl} (h:c∈NL ag j x) (hx:RqO x) {now:Int} (n0:0<=now) (hs:∀g∈x.legs,g.sc<=now):(0<=c.k/\c.k<=3)/\(0<=c.si/\c.si<=now):=by
 unfold NL at h;split at h
 ·cases h
 ·split at h
  ·cases h
  ·rename_i h1;rw[yA8]at h;subst h;dsimp only;refine⟨⟨hx.c0,hx.c1⟩,?_⟩;by_cases hi:(YS (λr:Lg=>r.jn==j) x.legs).toNat<x.legs.length
   ·have hm:=zP x.legs _ hi;have hl:=hx.lg;unfold NW at hl;rw[yAk]at hl;have:=hs _ hm;have hv:=zH0 _ _ hl.2 _ hm;generalize x.legs.getD (YS (λr:Lg=>r.jn==j) x.legs).toNat default=g at *;unfold NG at hv;rw[yAc]at hv;omega
   ·rw[yAg,yAz zB]
    show(0:Int)<=0/\(0:Int)<=now
    omega
def zH4 {c:Cf} {j:Int} {ds:List yY} (hI:∀d∈ds,uV c d) {now:Int} (n0:0<=now) (hs:∀d∈ds,GE now d.rq):∀x∈vV j ds,(0<=x.k/\x.k<=3)/\(0<=x.si/\x.si<=now):=λx hx=>by
 unfold vV at hx;obtain⟨y,hy,hx⟩:=yCn.1 hx;obtain⟨d,hd,rfl⟩:=yA5.1 hy;unfold gR at hx;obtain⟨y,hy,hx⟩:=yCn.1 hx;obtain⟨r,hr,rfl⟩:=yA5.1 hy;exact zH3 hx ((hI d hd).v.ok r hr) n0 (hs d hd r hr)
theorem MR (j:Int):∀l:List yY,(∀d∈l,d.rq.length<=4)->(vV j l).length<=4*l.length
 | [],_=>yAb _
 |d::l,h=>by
  have h1:=fQ d.rg.num j d.rq;have h2:=MR j l (λx hx=>h x MD);have h3:=h d zU;have e:vV j (d::l)=gR d.rg.num j d.rq++vV j l:=rfl;rw[e,yAd,yAl];omega
def bM (c:Cf) (sg:List Sg) (sv:List Sv) (st:List Int) (ds:List yY) (now:Int) (k:Nat):Sg×Sv:=cF c (c.js.getD k default) (sg.getD k default) (sv.getD k default) (vV (k:Int) ds) (st.getD k default) now
def OY (D:Nat->Sg×Sv) (l:List Sg) (i:Nat):List Sg:=bB (λk _=>(D k).1) l i
def OZ (D:Nat->Sg×Sv) (l:List Sv) (i:Nat):List Sv:=bB (λk _=>(D k).2) l i
def KT (l:List Int) (i:Nat):List Int:=bB (λ_ _=> -1) l i
def stW (js:List Jn) (D:Nat->Sg×Sv) (n i:Nat):List AV:=(List.range n).map λk=>if k<i then vO (MS (js.getD k default) (D k).1 (D k).2)else .agg [bA false,bA false,.s (.slice none 0 0),.s (.slice none 0 0)]
def stH (c:Cf) (now:Int) (ds:List yY) (v:AV) (sg:List Sg) (sv:List Sv) (st:List Int):List (Nat×xN):=
 [(2,.box [zD wJ c.js,zD wK c.ags,iA c.per,iA c.cap,iA c.hold,iA c.lock,bA false,iA now,zD zI ds,.ref 1012 0 (sg.map wX).length,.ref 1013 0 (sv.map wU).length,.ref 1014 0 (st.map iA).length,v]),(1012,.arr 5 (sg.map wX) false),(1013,.arr 3 (sv.map wU) false),(1014,.arr 1 (st.map iA) false)]
theorem zH5 (c:Cf) (hv:VT c) (now:Int) (n0:0<=now) (n1:now<=1000000000) (ds:List yY) (hd4:ds.length<=4) (hI:∀d∈ds,uV c d) (hs:∀d∈ds,GE now d.rq) (sg:List Sg) (sv:List Sv) (st:List Int) (vw:List Vw)
  (hg:sg.length=c.js.length) (hsv:sv.length=c.js.length) (hst:st.length=c.js.length) (hj:∀k,k<c.js.length->JI (c.js.getD k default) (sg.getD k default) (sv.getD k default) now):
  zN 155 [.ptr 2 0 0] (stH c now ds (zD vO vw) sg sv st) (.tup [])
   (stH c now ds (.ref 1015 0 c.js.length) (OY (bM c sg sv st ds now) sg c.js.length) (OZ (bM c sg sv st ds now) sv c.js.length) (KT st c.js.length)++[(1015,.arr 4 (stW c.js (bM c sg sv st ds now) c.js.length c.js.length) false)]):=by
 have hjl:=zA wJ c.js;have hgl:=zA wX sg;have hvl:=zA wU sv;have htl:=zA iA st;have hj4:=hv.j;unfold stH;refine eM call155 λF hF=>?_
 (repeat' (first|refine uL ?_|((first|apply xM|apply wA)<;>intro hc)|(refine zE ?_;first|(refine zE ?_;refine wG (zH1 rfl rfl rfl) rfl ?_)|(refine gB ?_;refine fZ 1015 tok rfl rfl rfl rfl rfl rfl rfl rfl rfl rfl rfl rfl rfl zB zB rfl rfl rfl ?_))|fail))
 rw[hjl,hgl,hvl,hg,hsv,yGh,yGh]
 (repeat' (first|refine uL ?_|((first|apply xM|apply wA)<;>intro hc)|(refine zE ?_;first|(refine gB ?_;refine fZ 1015 tok rfl rfl rfl rfl rfl rfl rfl rfl rfl rfl rfl rfl rfl zB zB rfl rfl rfl ?_))|fail))
 have hw0:∀D,stW c.js D c.js.length 0=List.replicate c.js.length (.agg [bA false,bA false,.s (.slice none 0 0),.s (.slice none 0 0)]):=λD=>by
  unfold stW;apply yBi;intro j;rw[yAa,yB2];by_cases hj:j<c.js.length
  ·rw[yA4 hj,zZ8 hj];simp
  ·rw[zZ7 hj,yAz vA];rfl
 have hC:=MR;have hG0:∀D,OY D sg 0=sg:=λD=>qR _ _
 have hV0:∀D,OZ D sv 0=sv:=λD=>qR _ _
 have hK0:KT st 0=st:=qR _ _;have hgn:∀D i,((OY D sg i).map wX).length=c.js.length:=λD i=>by unfold OY;rw[zZ9,wP,hg]
 have hvn:∀D i,((OZ D sv i).map wU).length=c.js.length:=λD i=>by unfold OZ;rw[zZ9,wP,hsv]
 have hkn:∀i,((KT st i).map iA).length=c.js.length:=λi=>by unfold KT;rw[zZ9,wP,hst]
 have hwn:∀D i,(stW c.js D c.js.length i).length=c.js.length:=λD i=>by unfold stW;rw[zZ9,yBp]
 rw[htl,hst,hgn,hvn,hkn];refine zO (c.js.length) [1012,1013,1014,1015,2] [2] [0,28] [29,0,28] rfl (λi T U=>⟨(29,iA i)::T,(1012,.arr 5 ((OY (bM c sg sv st ds now) sg i).map wX) false)::(1013,.arr 3 ((OZ (bM c sg sv st ds now) sv i).map wU) false)::(1014,.arr 1 ((KT st i).map iA) false)::(1015,.arr 4 (stW c.js (bM c sg sv st ds now) c.js.length i) false)::U⟩) ?_;(conv=>whnf);refine⟨by(rw[hG0,hV0,hK0,hw0];rfl),?_,?_⟩
 ·intro i hi;have hyj:=zM wJ c.js i hi;have hyg:((OY (bM c sg sv st ds now) sg i).map wX)[i]? =some (wX (sg.getD i default)):=by rw[yAa];unfold OY;rw[vQ,zZ8 zB,zZ7 (yDx i)];rfl
  have hyv:((OZ (bM c sg sv st ds now) sv i).map wU)[i]? =some (wU (sv.getD i default)):=by rw[yAa];unfold OZ;rw[vQ,zZ8 zB,zZ7 (yDx i)];rfl
  have hyk:((KT st i).map iA)[i]? =some (iA (st.getD i default)):=by rw[yAa];unfold KT;rw[vQ,zZ8 zB,zZ7 (yDx i)];rfl
  have hyw:(stW c.js (bM c sg sv st ds now) c.js.length i)[i]? =some (.agg [bA false,bA false,.s (.slice none 0 0),.s (.slice none 0 0)]):=dM _ _ _ _ hi;have eg:(OY (bM c sg sv st ds now) sg (i+1)).map wX=((OY (bM c sg sv st ds now) sg i).map wX).set i (wX (bM c sg sv st ds now i).1):=by unfold OY;rw[uR _ _ _ _ zB]
  have ev:(OZ (bM c sg sv st ds now) sv (i+1)).map wU=((OZ (bM c sg sv st ds now) sv i).map wU).set i (wU (bM c sg sv st ds now i).2):=by unfold OZ;rw[uR _ _ _ _ zB]
  have ek:(KT st (i+1)).map iA=((KT st i).map iA).set i (iA (-1)):=by unfold KT;rw[uR _ _ _ _ zB]
  have ew:stW c.js (bM c sg sv st ds now) c.js.length (i+1)=(stW c.js (bM c sg sv st ds now) c.js.length i).set i (vO (MS (c.js.getD i default) (bM c sg sv st ds now i).1 (bM c sg sv st ds now i).2)):=fK _ _ _ _ hi;have J:=hv.jv _ (zP c.js i hi);have H:=hj i hi;have cl:(vV (i:Int) ds).length<=4*ds.length:=hC i ds λd hd=>(hI d hd).v.n4
  have cm:=zH4 (j:=(i:Int)) hI n0 hs;have hp:=hv.p;have hcp:=hv.cp;have hJn:=J.n;have hHn:=H.n;have HD:DcB c (sv.getD i default) (vV (i:Int) ds) now:=⟨hp.1,zB,zB,n0,n1,H.e,λx hx=>(cm x hx).1,λx hx=>(cm x hx).2,zB,zB⟩
  have kd:zN 190 [vG c,wJ (c.js.getD i default),wX (sg.getD i default),wU (sv.getD i default),zD gW (vV (i:Int) ds),iA (st.getD i default),iA now] [] (.tup [wX (bM c sg sv st ds now i).1,wU (bM c sg sv st ds now i).2]) []:=
   zOm c _ J _ H.c _ _ _ now HD (by have:=zHz c (sv.getD i default) (vV (i:Int) ds) now H.g;omega)
  have ko:=zH7 (c.js.getD i default) J (bM c sg sv st ds now i).1 (zOn J H.c _ _ _ _ _) (bM c sg sv st ds now i).2;have kc:=zEg c false now ds i zB (λd hd=>(hI d hd).bd) ((OY (bM c sg sv st ds now) sg i).map wX) ((OZ (bM c sg sv st ds now) sv i).map wU) (((KT st i).map iA).set i (iA (-1))) (stW c.js (bM c sg sv st ds now) c.js.length i) c.js.length c.js.length c.js.length c.js.length;have hgl':=hgn (bM c sg sv st ds now) i;have hvl':=hvn (bM c sg sv st ds now) i;have hkl':=hkn i;have hwl':=hwn (bM c sg sv st ds now) i;rw[eg,ev,ek,ew];clear eg ev ek ew hG0 hV0 hK0 hw0 HD cm hC hgn hvn hkn hwn hj H J;generalize (OY (bM c sg sv st ds now) sg i).map wX=X at *;generalize (OZ (bM c sg sv st ds now) sv i).map wU=Y at *;generalize (KT st i).map iA=Z' at *;generalize stW c.js (bM c sg sv st ds now) c.js.length i=W at *;generalize bM c sg sv st ds now i=p at *;generalize MS (c.js.getD i default) p.1 p.2=w at *;generalize vV (i:Int) ds=l at *;generalize sg.getD i default=s at *;generalize sv.getD i default=v at *;generalize st.getD i default=k at *;generalize c.js.getD i default=j at *;have hx1:(X.set i (wX p.1))[i]? =some (wX p.1):=yBq zB;have hx2:(Y.set i (wU p.2))[i]? =some (wU p.2):=yBq zB
  (have zc1:=kd;have zc2:=ko;(repeat' (first|refine uL ?_|((first|apply xM|apply wA)<;>intro hc)|(refine zE ?_;first|(refine vS 86 ?_;refine wG (zH2 (zH kc rfl rfl rfl rfl rfl) rfl rfl) rfl ?_))|fail))<;>clear zc1 zc2)
  rfl
 ·(refine WW ?_)
  exact kQ [2,1012,1013,1014,1015] rfl rfl rfl rfl
end Av
end Go.Proofs.YteajjdidebfcjaaGreat
