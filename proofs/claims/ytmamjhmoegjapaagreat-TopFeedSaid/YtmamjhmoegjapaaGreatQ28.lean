/- Part 28. -/
import Derived.Test.YtmamjhmoegjapaaGreatQ27
namespace Go.Proofs.YtmamjhmoegjapaaGreat
namespace Av
open Tryz
set_option linter.all false
set_option maxRecDepth 4000
set_option maxHeartbeats 8000000
def LD (f g gr:Int) (ar:List Int):Nat->List Int
 |0=>[]
 |i+1=>(if(i:Int)=f/\0<g then LD f g gr ar i++uZ gr else LD f g gr ar i)++uZ (ar.getD i default)
def OQ (f g gr:Int) (ar:List Int) (i:Nat):List Int:=if(i:Int)=f/\0<g then LD f g gr ar i++uZ gr else LD f g gr ar i
theorem DM {n:Int} (h:n<128):(uZ n).length=1:=by unfold uZ;rw[UO h];rfl
theorem zV0 {n:Int} (h:n<16384):(uZ n).length<=2:=by
 by_cases h1:n<128
 ·rw[DM h1];omega
 ·unfold uZ;rw[QR zB,UO zB];simp
theorem IP (f g gr:Int) (ar:List Int):∀i,(LD f g gr ar i).length<=10*i
 |0=>zXc _
 |i+1=>by
  have:=IP f g gr ar i;have h1:=jR gr;have h2:=jR (ar.getD i default);unfold LD
  split<;>simp only[zXb]<;>omega
theorem zOw (f g gr:Int) (ar:List Int) (i:Nat):(OQ f g gr ar i).length<=10*i+5:=by
 have:=IP f g gr ar i;have h1:=jR gr;unfold OQ
 split<;>(try simp only[zXb])<;>omega
theorem zKd {f g gr:Int} (hg:0<=gr/\gr<=4294967295) {ar:List Int} (ha:VZ ar):∀i,i<=ar.length->BY (LD f g gr ar i)
 |0,_=>λx hx=>by cases hx
 | i+1,hi=>by
  have ih:=zKd (f:=f) (g:=g) hg ha i zB;have h1:=LV hg.1 hg.2;have h2:=ha (ar.getD i default) (yC ar i zB);have h3:=LV h2.1 h2.2;unfold LD;intro x hx
  rcases zXs.1 hx with hx|hx
  ·split at hx
   ·exact(zXs.1 hx).elim (ih x) (h1 x)
   ·exact ih x hx
  ·exact h3 x hx
theorem zTo {f g gr:Int} (hg:0<=gr/\gr<=4294967295) {ar:List Int} (ha:VZ ar) (i:Nat) (hi:i<=ar.length):BY (OQ f g gr ar i):=by
 have ih:=zKd (f:=f) (g:=g) hg ha i hi;have h1:=LV hg.1 hg.2;unfold OQ;intro x hx;split at hx
 ·exact(zXs.1 hx).elim (ih x) (h1 x)
 ·exact ih x hx
theorem zTp (k f g lo hi sd gr:Int) (ar da:List Int) (c1:zN 124 [iA k] [] (.tup [ZQ ⟨0,f,g,lo,hi,sd⟩,bA true]) []) (c2:zN 125 [ZQ ⟨0,f,g,lo,hi,sd⟩,iA ((ar.map iA).length:Int)] [] (.tup [iA gr,bA true]) [])
  (hd:sd= -1∨(da.length:Int)=sd) (ha:VZ ar) (hal:ar.length<=100) (hg:0<=gr/\gr<=4294967295) (hz:(OQ f g gr ar ar.length++da).length<=200):
  zN 72 [zY ⟨k,[],ar,da⟩] [] (.tup [zD yA (OQ f g gr ar ar.length++da),iA 0]) []:=by
 have c3:=TJ [] zS;have hla:=zA iA ar;have hld:=zA yA da;have cg:=zVn gr hg.1 hg.2;have hlg:=zA yA (uZ gr);have hvg:=jR gr;have hpl:=IP f g gr ar;have hpg:=zOw f g gr ar;have hp0:LD f g gr ar 0=[]:=rfl
 have hpG:∀i:Nat,OQ f g gr ar i=if(i:Int)=f/\0<g then LD f g gr ar i++uZ gr else LD f g gr ar i:=λ_=>rfl
 have hpS:∀i:Nat,LD f g gr ar (i+1)=OQ f g gr ar i++uZ (ar.getD i default):=λ_=>rfl
 have hz3:(OQ f g gr ar ar.length).length+da.length<=200:=by rw[zXb]at hz;exact hz
 have hz:((OQ f g gr ar ar.length).map yA++da.map yA).length<=200:=by rw[zXb]at hz;simp;omega
 have hd3:da.length<=200:=by omega
 rw[show zD yA (OQ f g gr ar ar.length++da)= .sl false (List.take ((OQ f g gr ar ar.length).map yA++da.map yA).length (List.drop 0 ((OQ f g gr ar ar.length).map yA++da.map yA))) by rw[zYf,zXe];unfold zD;rw[zXf]];rw[show zY ⟨k,[],ar,da⟩= .agg [iA k,zD yA [],zD iA ar,zD yA da]from rfl];rw[show ZQ ⟨0,f,g,lo,hi,sd⟩= .agg [iA 0,iA f,iA g,iA lo,iA hi,iA sd]from rfl]at *; generalize OQ f g gr ar=pg at *;generalize LD f g gr ar=py at *;clear hz3
 rcases hd with h2|h2
 all_goals
  refine eM call72 λF hF=>?_
  refine yO (gU c1 c2 c3) ?_
 all_goals
  refine vW 1001 rfl ?_;refine xT (ar.length+1) [1001,1,4] [1,4] [1,4,6,64] [7,65,1,4,6,64] rfl (λi T U zs=>(i<=ar.length)/\zs=⟨(7,.ref 1001 0 ((py i).map yA).length)::(65,iA i)::T,(1001,.arr 1 ((py i).map yA) true)::U⟩) ?_;(conv=>whnf);refine⟨?_,?_,?_⟩
  ·refine⟨zXp _,?_⟩;rw[hp0];rfl
  ·rintro i st' hi ⟨hik,rfl⟩;have hbl:=hpl i;have hb2:=hpg i;have hg:=hpG i;have hlp:=zA yA (py i);have hlP:=zA yA (pg i)
   have hmG:(pg i).map yA=if(i:Int)=f/\0<g then(py i).map yA++(uZ gr).map yA else(py i).map yA:=by
    rw[hg];split
    ·rw[zXf]
    ·rfl
   by_cases hie:i=ar.length
   ·subst hie;clear hpS hg hpl hpg hpG hp0 c1 c2 c3;generalize (py ar.length).map yA=A at *;generalize (pg ar.length).map yA=B at *;generalize uZ gr=W at *;by_cases hi1:(ar.length:Int)=f
    ·by_cases hi2:0<g
     ·rw[zW9 ⟨hi1,hi2⟩]at hmG;subst hmG;refine zU cg ?_;exact zK
     ·rw[zW8 (λh=>hi2 h.2)]at hmG;subst hmG;refine WW ?_;exact zK
    ·rw[zW8 (λh=>hi1 h.1)]at hmG;subst hmG;refine WW ?_;exact zK
   have hna:=ha (ar.getD i default) (yC ar i zB);have cv:=zVn (ar.getD i default) hna.1 hna.2;have hy:=zM iA ar i zB;have hS:=hpS i;have hlv:=zA yA (uZ (ar.getD i default));have hvv:=jR (ar.getD i default);have hmS:(py (i+1)).map yA=(pg i).map yA++(uZ (ar.getD i default)).map yA:=by rw[hS,zXf]
   rw[hmS];clear hS hg hpl hpg hpG hpS hp0 hmS c1 c2 c3 hz ha;generalize (pg ar.length).map yA=E at *;generalize (py i).map yA=A at *;generalize (pg i).map yA=B at *;generalize uZ (ar.getD i default)=V at *;generalize ar.getD i default=a at *;generalize uZ gr=W at *;by_cases hi1:(i:Int)=f
   ·by_cases hi2:0<g
    ·rw[zW9 ⟨hi1,hi2⟩]at hmG;subst hmG;refine yO (wW cg cv) ?_;exact⟨zB,rfl⟩
    ·rw[zW8 (λh=>hi2 h.2)]at hmG;subst hmG;refine zU cv ?_;exact⟨zB,rfl⟩
   ·rw[zW8 (λh=>hi1 h.1)]at hmG;subst hmG;refine zU cv ?_;exact⟨zB,rfl⟩
  ·rintro st' ⟨hik,rfl⟩;exfalso;omega
def kM (k:Int):Int×Int×Int×Int×Int:=if k=16 then(1,0,0,0,10)else if k=17∨k=21 then(1,0,0,0,-1)else if k=18 then(1,3,0,16,0)else if k=19 then(0,2,0,4,0)else if k=20 then(4,0,0,0,0)else(2,0,0,0,0)
theorem zB4 (k:Int) (h:13<=k/\k<=21):zN 124 [iA k] [] (.tup [ZQ ⟨0,(kM k).1,(kM k).2.1,(kM k).2.2.1,(kM k).2.2.2.1,(kM k).2.2.2.2⟩,bA true]) []:=by
 have:k=13∨k=14∨k=15∨k=16∨k=17∨k=18∨k=19∨k=20∨k=21:=by omega
 rcases this with rfl|rfl|rfl|rfl|rfl|rfl|rfl|rfl|rfl
 all_goals
  refine eM call124 λF hF=>?_
  refine WW ?_;exact zK
theorem zKe (f g lo hi sd n gr:Int) (hn:0<=n/\n<=100) (hf:0<=f/\f<=4) (h:(g=0/\n=f/\gr=0)∨((g=2∨g=3)/\n=f+g*gr/\0<=gr/\lo<=gr/\gr<=hi)):zN 125 [ZQ ⟨0,f,g,lo,hi,sd⟩,iA n] [] (.tup [iA gr,bA true]) []:=by
 rw[show ZQ ⟨0,f,g,lo,hi,sd⟩= .agg [iA 0,iA f,iA g,iA lo,iA hi,iA sd]from rfl]
 rcases h with⟨rfl,rfl,rfl⟩|⟨rfl|rfl,he,h0,h1,h2⟩
 ·(refine eM call125 λF hF=>?_)
  refine WW ?_;exact zK
 ·have hgr:gr=(n-f).tdiv 2:=by
   rw[zY0 zB];omega
  have hm:(n-f).tmod 2=0:=by
   rw[zYn zB];omega
  have hq:YI .i64 ((n-f).tdiv 2):=by
   unfold YI;have e1:IntKind.i64.min= -9223372036854775808:=by decide
   have e2:IntKind.i64.max=9223372036854775807:=by decide
   omega
  have h9:¬n-f<0:=by omega
  subst hgr;clear he;refine eM call125 λF hF=>?_
  refine WW ?_;exact zK
 ·have hgr:gr=(n-f).tdiv 3:=by
   rw[zY0 zB];omega
  have hm:(n-f).tmod 3=0:=by
   rw[zYn zB];omega
  have hq:YI .i64 ((n-f).tdiv 3):=by
   unfold YI;have e1:IntKind.i64.min= -9223372036854775808:=by decide
   have e2:IntKind.i64.max=9223372036854775807:=by decide
   omega
  have h9:¬n-f<0:=by omega
  subst hgr;clear he;refine eM call125 λF hF=>?_
  refine WW ?_;exact zK
structure SvM (k:Int) (ar da:List Int):Prop where
 kk:13<=k/\k<=21
 n:VZ ar
 l:ar.length<=60
 b:BY da
 d:(kM k).2.2.2.2= -1∨(da.length:Int)=(kM k).2.2.2.2
 g:((kM k).2.1=0/\(ar.length:Int)=(kM k).1)∨(((kM k).2.1=2∨(kM k).2.1=3)/\∃gr:Int,(ar.length:Int)=(kM k).1+(kM k).2.1*gr/\0<=gr/\(kM k).2.2.1<=gr/\gr<=(kM k).2.2.2.1)
 z:(((ar.map uZ).flatten).length+1)+da.length<=200
theorem zB5 (f g gr:Int) (hgr:gr<128) (ar:List Int):∀i,i<=ar.length->(LD f g gr ar i).length<=(((ar.take i).map uZ).flatten).length+(if f<i then 1 else 0)
 |0,_=>by simp[LD]
 | i+1,hi=>by
  have ih:=zB5 f g gr hgr ar i zB;have h1:=DM hgr
  have e:ar.take (i+1)=ar.take i++[ar.getD i default]:=by
   rw[zXh,zXr zB,zZg,yAg zB]
  rw[e,zXf,yAh];unfold LD;simp only[zXb,zYi,zY6,zZ9,List.flatten_nil,zX8,zYa];split
  ·rename_i h2;rw[zXb,h1,zW9 zB];rw[zW8 zB]at ih;omega
  ·by_cases h3:f<i
   ·rw[zW9 h3]at ih;rw[zW9 zB];omega
   ·rw[zW8 h3]at ih
    split<;>omega
theorem zOx (f g gr:Int) (hgr:gr<128) (ar:List Int):(OQ f g gr ar ar.length).length<=((ar.map uZ).flatten).length+1:=by
 have ih:=zB5 f g gr hgr ar ar.length (zXc _);have h1:=DM hgr;rw[zXe]at ih;unfold OQ;split
 ·rename_i h2;rw[zXb,h1];rw[zW8 zB]at ih;omega
 ·split at ih<;>omega
theorem zOy (f g gr:Int) (ar:List Int) (h:ar≠[]):1<=(OQ f g gr ar ar.length).length:=by
 have h1:0<ar.length:=List.length_pos_iff.2 h;obtain⟨n,hn⟩:∃n,ar.length=n+1:=⟨ar.length-1,zB⟩
 have h2:1<=(LD f g gr ar ar.length).length:=by
  rw[hn];unfold LD;rw[zXb];have:=(jR (ar.getD n default)).1;omega
 unfold OQ;split
 ·rw[zXb];omega
 ·exact h2
def PyF (k:Int) (ar da p:List Int):Prop:=∃gr:Int,(0<=gr/\gr<=100)/\(((kM k).2.1=0/\(ar.length:Int)=(kM k).1/\gr=0)∨(((kM k).2.1=2∨(kM k).2.1=3)/\(ar.length:Int)=(kM k).1+(kM k).2.1*gr/\0<=gr/\(kM k).2.2.1<=gr/\gr<=(kM k).2.2.2.1))/\p=OQ (kM k).1 (kM k).2.1 gr ar ar.length++da
theorem zKf {k:Int} {ar da:List Int} (h:SvM k ar da):∃p,(BY p/\PyF k ar da p)/\(p.length<=200/\(ar≠[]->1<=p.length))/\zN 72 [zY ⟨k,[],ar,da⟩] [] (.tup [zD yA p,iA 0]) []:=by
 have hl:=zA iA ar
 have hf:(0<=(kM k).1/\(kM k).1<=4)/\(kM k).2.2.2.1<=16:=by
  have hk:=h.kk;have:k=13∨k=14∨k=15∨k=16∨k=17∨k=18∨k=19∨k=20∨k=21:=by omega
  clear hk h
  rcases this with rfl|rfl|rfl|rfl|rfl|rfl|rfl|rfl|rfl<;>decide
 obtain⟨hf,hh⟩:=hf
 obtain⟨gr,hg1,hg2,hg3⟩:∃gr:Int,(0<=gr/\gr<=100)/\True/\(((kM k).2.1=0/\((ar.map iA).length:Int)=(kM k).1/\gr=0)∨(((kM k).2.1=2∨(kM k).2.1=3)/\((ar.map iA).length:Int)=(kM k).1+(kM k).2.1*gr/\0<=gr/\(kM k).2.2.1<=gr/\gr<=(kM k).2.2.2.1)):=by
  rw[hl]
  rcases h.g with⟨g1,g2⟩|⟨g1,gr,g2,g3,g4,g5⟩
  ·exact⟨0,zB,trivial,.inl ⟨g1,g2,rfl⟩⟩
  ·exact⟨gr,zB,trivial,.inr ⟨g1,g2,g3,g4,g5⟩⟩
 have c2:=zKe _ _ (kM k).2.2.1 (kM k).2.2.2.1 (kM k).2.2.2.2 ((ar.map iA).length:Int) gr (by have:=h.l;omega) hf hg3;have hs:=zOx (kM k).1 (kM k).2.1 gr zB ar;have hz:=h.z;refine⟨OQ (kM k).1 (kM k).2.1 gr ar ar.length++da,⟨?_,gr,hg1,by rw[hl]at hg3;exact hg3,rfl⟩,?_,zTp k _ _ _ _ _ gr ar da (zB4 k h.kk) c2 h.d h.n (by have:=h.l;omega) zB (by rw[zXb];omega)⟩
 ·intro x hx;exact(zXs.1 hx).elim (zTo zB h.n ar.length (zXc _) x) (h.b x)
 ·refine⟨by rw[zXb];omega,λh9=>?_⟩;have:=zOy (kM k).1 (kM k).2.1 gr ar h9;rw[zXb];omega
theorem zTq {k:Int} {ar da:List Int} (h:SvM k ar da):zN 119 [zY ⟨k,[],ar,da⟩] [] (bA true) []:=by
 obtain⟨p,_,_,c⟩:=zKf h;rw[show zY ⟨k,[],ar,da⟩= .agg [iA k,zD yA [],zD iA ar,zD yA da]from rfl]at *; refine eM call119 λF hF=>?_
 refine zU c ?_;exact zK
theorem dG {k:Int} {ar da:List Int} (h:SvM k ar da):∃p,(BY p/\PyF k ar da p)/\(p.length<=200/\(ar≠[]->1<=p.length))/\zN 20 [zY ⟨k,[],ar,da⟩] [] (.tup [zD yA (HF k p),iA 0]) []:=by
 obtain⟨p,h1,⟨h2,h3⟩,c⟩:=zKf h;have hk:=h.kk;have c2:=zS2 k p zB zB h1.1 h2;refine⟨p,h1,⟨h2,h3⟩,?_⟩;generalize HF k p=q at *;rw[show zY ⟨k,[],ar,da⟩= .agg [iA k,zD yA [],zD iA ar,zD yA da]from rfl]at *; refine eM call20 λF hF=>?_
 refine yO (wW c c2) ?_;exact zK
def YQ (m:Ms):Prop:=m.tok=[]/\SvM m.kind m.args m.data
structure ItK (i:It):Prop where
 y:BY i.pay
 n:i.pay.length<=100000
 k:0<=i.kind/\i.kind<=255
 c:0<=i.code/\i.code<=100
def InS (i:In):Prop:=i.its.length<=1000/\∀x∈i.its,ItK x
theorem InS.b {i:In} (h:InS i):InB i:=⟨h.1,λx hx=>⟨(h.2 x hx).y,(h.2 x hx).n⟩⟩
structure EnK (e:En):Prop where
 a:0<=e.ag/\e.ag<4
 k:0<=e.ki/\e.ki<=255
 c:0<=e.co/\e.co<=100
theorem eI (l:List Int):((l.map uZ).flatten).length<=5*l.length:=by
 induction l with
 |nil=>simp
 |cons a l ih=>
  have:=(jR a).2;rw[zYi,zZ9,zXb,zXl];omega
theorem sv2 (k a b:Int) (hk:k=13∨k=14∨k=15) (ha:0<=a/\a<=4294967295) (hb:0<=b/\b<=4294967295):YQ ⟨k,[],[a,b],[]⟩:=by
 have h:=eI [a,b];refine⟨rfl,?_⟩;dsimp only
 have hs:kM k=(2,0,0,0,0):=by rcases hk with rfl|rfl|rfl<;>rfl
 refine⟨zB,.cons ha (.cons hb .nil),by simp,λx hx=>(by cases hx),?_,?_,by simp only[zXl,zYa]at *; omega⟩
 ·rw[hs];exact .inr rfl
 ·rw[hs];exact .inl ⟨rfl,rfl⟩
theorem zTr {c:Cf} {d:xP} (hI:uV c d):VZ (fB d.rq):=by
 have ho:=hI.v.ok;generalize d.rq=l at *;intro x hx;unfold fB at hx;obtain⟨y,hy,hx⟩:=yAv.1 hx;obtain⟨r,hr,rfl⟩:=zYo.1 hy;have h:=ho r hr;have h0:=h.i0;have h1:=h.i1;have h2:=h.t0;have h3:=h.t1;simp only[zYq,yBd,yCo]at hx;omega
theorem zW1 {c:Cf} {d:xP} (hI:uV c d) {s now:Int} (n0:0<=now) (n1:now<=1073741824) {i:It} (hK:ItK i) {h:Hd} (hP:HdP c d s i now h):YQ h.p:=by
 have hn:=hI.n;by_cases he:h.e=0
 ·obtain⟨a,_,hr⟩:=hP.yes he
  rcases hr with⟨_,e,_⟩|⟨_,e,_⟩|⟨_,e,_⟩|⟨_,k,sec,hk,⟨hs,hy⟩,e⟩|⟨_,x,x0,x1,e⟩
  ·rw[e];exact sv2 13 _ _ (.inl rfl) zB zB
  ·have h4:=hI.v.n4;have hb:=zTr hI;have hl:=UN d.rq;have hf:=eI (fB d.rq);rw[e];refine⟨rfl,by dsimp only[QO];omega,hb,by dsimp only[QO];omega,λx hx=>(by cases hx),.inr rfl,.inr ⟨.inl rfl,(d.rq.length:Int),?_,zB,by show(0:Int)<=_;omega,by show _<=(4:Int);omega⟩,?_⟩
   ·show((fB d.rq).length:Int)=0+2*(d.rq.length:Int)
    omega
   ·show(((fB d.rq).map uZ).flatten).length+1+0<=200
    omega
  ·have h8:=hI.t8;have hv:=hI.vh;have hq:=hI.q;have ha:=hI.a.q;have hl:=hI.bl;have hb:=hI.a.b;have hfr:KN d.rg.tk<=8:=by rw[<-h8];exact zZn _ _
   rw[e];have hf:=eI (bR d).args;refine⟨rfl,by dsimp only[bR];omega,.cons zB (.cons zB (.cons zB (.cons zB .nil))),by simp[bR],λx hx=>(by cases hx),.inr rfl,.inl ⟨rfl,rfl⟩,?_⟩
   show(((bR d).args.map uZ).flatten).length+1+0<=200
   have:(bR d).args.length=4:=rfl;omega
  ·rw[e];have hf:=eI [(k:Int)];refine⟨rfl,by dsimp only;omega,.cons zB .nil,by simp,?_,.inr ?_,.inl ⟨rfl,rfl⟩,?_⟩
   ·intro x hx;simp only[zYq]at hx
    rcases hx with rfl|rfl|hx
    ·omega
    ·omega
    ·exact hy x hx
   ·show((d.rg.num::(k:Int)::sec).length:Int)=10
    simp only[zXl];omega
   ·show(([(k:Int)].map uZ).flatten).length+1+(d.rg.num::(k:Int)::sec).length<=200
    simp only[zXl,zYa]at hf⊢;omega
  ·rw[e];exact sv2 14 _ _ (.inr (.inl rfl)) (by have:=hK.k;omega) ⟨x0,x1⟩
 ·have hb:=hP.eb hK.c;rw[(hP.no he).2.1];exact sv2 15 _ _ (.inr (.inr rfl)) (by have:=hK.k;omega) zB
theorem zW2 {c:Cf} {d:xP} {s now:Int} {i:It} {h:Hd} (hP:HdP c d s i now h):h.p.kind≠17:=by
 by_cases he:h.e=0
 ·obtain⟨a,_,hr⟩:=hP.yes he
  rcases hr with⟨_,e,_⟩|⟨_,e,_⟩|⟨_,e,_⟩|⟨_,k,sec,hk,⟨hs,hy⟩,e⟩|⟨_,x,x0,x1,e⟩
  all_goals (rw[e];intro h17;revert h17;first|decide|(intro h17;cases h17))
 ·obtain⟨_,e,_⟩:=hP.no he;rw[e];intro h17;cases h17
def OR (now:Int) (l:List Rq):Prop:=∀r∈l,∀g∈r.legs,g.sc<=now
theorem OR.mono {a b:Int} {l:List Rq} (h:OR a l) (hab:a<=b):OR b l:=λr hr g hg=>Int.le_trans (h r hr g hg) hab
theorem OR.of {now:Int} (n0:0<=now) {l l':List Rq} (h:OR now l) (hs:QC l l'):OR now l':=λr hr g hg=>by
 rcases hs r hr g hg with h1|⟨r0,h1,g0,h2,h3⟩
 ·omega
 ·rw[h3];exact h r0 h1 g0 h2
theorem OR.mk {now:Int} (n0:0<=now) {l:List Rq} (h:OR now l):OR now (mkQ l now):=λr hr g hg=>by
 unfold mkQ at hr;obtain⟨r0,hr0,rfl⟩:=zYo.1 hr;unfold mkR at hg;obtain⟨g0,hg0,rfl⟩:=zYo.1 hg;unfold aV;have:=h r0 hr0 g0 hg0;split
 ·split
  ·exact zZf _
  ·exact this
 ·show(-1:Int)<=now
  omega
theorem zKg {c:Cf} {s:Nat} {now:Int} (n0:0<=now) (n1:now<=1073741824) {its:List It} (hK:∀x∈its,ItK x) {f:Nat->TS} {d:xP} (he:∀e∈(f 0).en,EnK e) (h0:(f 0).rs=[])
  (hs:∀k,k<its.length->StR c (s:Int) now (its.getD k default) (f k) (f (k+1))) (hd:∀k,GI c d (f k).d):∀k,k<=its.length->(∀m∈(f k).rs,YQ m/\m.kind≠17)/\(∀e∈(f k).en,EnK e)/\(∀j:Nat,j≠s->(f k).d.au[j]? =(f 0).d.au[j]?)/\(OR now (f 0).d.rq->OR now (f k).d.rq)
 |0,_=>⟨λm hm=>(by rw[h0]at hm;cases hm),he,λ_ _=>rfl,id⟩
 | k+1,hk=>by
  obtain⟨i1,i2,i3,i4⟩:=zKg n0 n1 hK he h0 hs hd k zB;obtain⟨h,_,hP,hb⟩:=hs k zB;have hI:=(hd k).i;have hit:=hK _ (yC its k zB);have hn:=hI.n;rw[hb];refine⟨λm hm=>?_,λe he=>?_,λj hj=>?_,λh9=>OR.of n0 (i4 h9) hP.sc⟩
  ·rcases zXs.1 hm with hm|hm
   ·exact i1 m hm
   ·rw[zX9.1 hm];exact⟨zW1 hI n0 n1 hit hP,zW2 hP⟩
  ·rcases zXs.1 he with he|he
   ·exact i2 e he
   ·rw[zX9.1 he];exact⟨hn,hit.k,hP.eb hit.c⟩
  ·dsimp only;rw[hP.ax j zB,i3 j hj]
structure DR where
 d:xP
 R:List (List Ms)
 en:List En
 ks:List Int
def drT (r:DR):AV:=tkT r.d r.R r.en r.ks
structure DtP (c:Cf) (now:Int) (d:xP) (ins:List In) (r:DR):Prop where
 i:uV c r.d
 ag:r.d.rg.ag=d.rg.ag
 num:r.d.rg.num=d.rg.num
 rn:r.R.length=d.au.length
 rl:∀s,s<d.au.length->(r.R.getD s []).length=(dJ ins s).length
 rv:∀l∈r.R,l.length<=1000/\∀m∈l,YQ m
 rk:∀l∈r.R,∀m∈l,m.kind≠17
 el:r.en.length<=2000
 en:∀e∈r.en,EnK e
 kl:r.ks.length<=2000
 ks:∀x∈r.ks,0<=x/\x<(c.js.length:Int)
 sc:OR now d.rq->OR now r.d.rq
 au:∀s,s<d.au.length->dJ ins s=[]->r.d.au[s]? =some (HA ins s (d.au.getD s default))
theorem zV1 {ins:List In} (h:∀i∈ins,InS i) (s:Nat):∀x∈dJ ins s,ItK x:=by
 unfold dJ;split
 ·rename_i hs;exact(h _ (yC ins s hs.1)).2
 ·exact λx hx=>by cases hx
theorem zKh {c:Cf} {now:Int} (n0:0<=now) (n1:now<=1073741824) {ins:List In} (hin:∀i∈ins,InS i) {d:xP} {zF:Nat->SS} (h0:zF 0=⟨d,[],[],[]⟩) (hz:∀s,GI c d (zF s).d/\SeR c now ins s (zF s) (zF (s+1))):
  ∀s,(zF s).R.length=s/\(∀j,j<s->((zF s).R.getD j []).length=(dJ ins j).length)/\(∀l∈(zF s).R,l.length<=1000/\∀m∈l,YQ m/\m.kind≠17)/\(∀e∈(zF s).en,EnK e)/\(∀j,(s<=j∨dJ ins j=[])->(zF s).d.au[j]? =d.au[j]?)/\(OR now d.rq->OR now (zF s).d.rq)
 |0=>by rw[h0];exact⟨rfl,λj hj=>absurd hj (zZq _),λl hl=>(by cases hl),λe he=>(by cases he),λ_ _=>rfl,id⟩
 | s+1=>by
  obtain⟨i0,i1,i2,i3,i4,i5⟩:=zKh n0 n1 hin h0 hz s;obtain⟨f,f0,f1,f2,f3⟩:=(hz s).2;have hsb:=(GJ (λi hi=>(hin i hi).b) s).1;obtain⟨r1,r2,r3,r4⟩:=zKg n0 n1 (zV1 hin s) (d:=(zF s).d) (f:=f) (by rw[f0];exact i3) (by rw[f0]) f1 (λk=>(f2 k).1) _ (zXc _);rw[f3];dsimp only;have hrl:=(f2 (dJ ins s).length).2.1;refine⟨by rw[zXb,zZ0,i0],λj hj=>?_,λl hl=>?_,r2,λj hj=>?_,λh9=>r4 (by rw[f0];exact i5 h9)⟩
  ·rw[zXh];by_cases h:j=s
   ·subst h;rw[zX2 zB,i0,zZo];exact hrl
   ·rw[zX3 zB,<-zXh];exact i1 j zB
  ·rcases zXs.1 hl with hl|hl
   ·exact i2 l hl
   ·rw[zX9.1 hl];exact⟨zB,r1⟩
  ·by_cases h:j=s
   ·subst h;have he:dJ ins j=[]:=hj.elim (λh=>absurd h zB) id;rw[he,zYa,f0];exact i4 j (.inl (zXc _))
   ·rw[r3 j h,f0];exact i4 j (hj.imp (λh=>by omega) id)
theorem zKi (c:Cf) (d:xP) (hI:uV c d) (ins:List In) (hil:ins.length=d.au.length) (hin:∀i∈ins,InS i) (now:Int) (n0:0<=now) (n1:now<=1073741824):
  ∃r:DR,DtP c now d ins r/\zN 110 [wT c,zJ d,zD jQ ins,iA now] [] (drT r) []:=by
 have hib:∀i∈ins,InB i:=λi hi=>(hin i hi).b
 have hau:d.au.length=1∨d.au.length=2:=by have:=hI.au;have:=hI.a.e;omega
 obtain⟨zF,z0,hz⟩:=zLo c now n0 n1 ins hib (dkU d ins) (zUs hI ins);have hs:=zKh n0 n1 hin z0 (λs=>⟨(hz s).1,(hz s).2.2⟩) d.au.length;obtain⟨hT,⟨_,e2,e3,e4⟩,_⟩:=hz d.au.length;refine⟨⟨dkM (zF d.au.length).d now,(zF d.au.length).R,(zF d.au.length).en,(zF d.au.length).ks⟩,⟨zUt hT.i now n0 n1,hT.a,hT.n,hs.1,hs.2.1,λl h=>⟨(hs.2.2.1 l h).1,λm hm=>((hs.2.2.1 l h).2 m hm).1⟩,λl h m hm=>((hs.2.2.1 l h).2 m hm).2,by dsimp only;omega,hs.2.2.2.1,by dsimp only;omega,e4,λh9=>OR.mk n0 (hs.2.2.2.2.2 h9),λs hsl he=>?_⟩,?_⟩
 ·show(zF d.au.length).d.au[s]? =_
  rw[hs.2.2.2.2.1 s (.inr he)]
  show(auF ins d.au)[s]? =_
  unfold auF;rw[uX,zW9 hsl,zW9 hsl]
 ·show zN 110 [wT c,zJ d,zD jQ ins,iA now] [] (tkT (dkM (zF d.au.length).d now) (zF d.au.length).R (zF d.au.length).en (zF d.au.length).ks) []
  rcases hau with hn|hn
  ·rw[hn];exact zCs hI ins zB hib now n0 n1 zF z0 hn zB hz
  ·rw[hn];exact zCt hI ins zB hib now n0 n1 zF z0 hn zB hz
theorem zAi {b:List Int} (hb:BY b) {p:It×Nat} (h:prF b=some p):(1<=p.2/\p.2<=b.length)/\(b.length<=100000->ItK p.1):=by
 unfold prF at h;split at h
 ·cases h
 rename_i h0;split at h
 ·cases h;exact⟨⟨zXc _,by dsimp only;omega⟩,λ_=>⟨kC,zXp _,by dsimp only;omega,by dsimp only;omega⟩⟩
 split at h
 ·cases h
 split at h
 ·cases h;exact⟨⟨zXc _,by dsimp only;omega⟩,λ_=>⟨kC,zXp _,by dsimp only;omega,by dsimp only;omega⟩⟩
 split at h
 ·cases h
 split at h
 ·cases h;exact⟨⟨zXc _,by dsimp only;omega⟩,λ_=>⟨kC,zXp _,by dsimp only;omega,by dsimp only;omega⟩⟩
 split at h
 ·cases h;exact⟨⟨by dsimp only;omega,by dsimp only;omega⟩,λ_=>⟨kC,zXp _,by dsimp only;omega,by dsimp only;omega⟩⟩
 split at h
 ·cases h;exact⟨⟨by dsimp only;omega,by dsimp only;omega⟩,λ_=>⟨kC,zXp _,by dsimp only;omega,by dsimp only;omega⟩⟩
 ·cases h;rename_i hk;refine⟨⟨by dsimp only;omega,by dsimp only;omega⟩,λhl=>⟨λx hx=>hb x (zYl (zY1 hx)),by dsimp only;rw[zXw,zYd];omega,?_,by dsimp only;omega⟩⟩;dsimp only;omega
def qI:Nat->List Int->List (It×Nat)
 |0,_=>[]
 |n+1,b=>match prF b with
  |none=>[]
  |some p=>p::qI n (b.drop p.2)
theorem zOz {n:Nat}:∀{b:List Int},BY b->b.length<=100000->∀p∈qI n b,ItK p.1:=by
 induction n with
 |zero=>intro b _ _ p hp;cases hp
 | succ n ih=>
  intro b hb hl p hp;unfold qI at hp;split at hp
  ·cases hp
  ·rename_i q hq;have h:=zAi hb hq
   rcases zYq.1 hp with rfl|hp
   ·exact h.2 hl
   ·exact ih (λx hx=>hb x (zYl hx)) PP p hp
def dH (l:List (It×Nat)):Nat:=(l.map λp=>p.2).sum
theorem IQ {n:Nat}:∀{b:List Int},BY b->dH (qI n b)<=b.length:=by
 induction n with
 |zero=>intro b _;exact zXp _
 |succ n ih=>
  intro b hb;unfold qI;split
  ·exact zXp _
  ·rename_i q hq;have h:=zAi hb hq;have h2:=ih (b:=b.drop q.2) (λx hx=>hb x (zYl hx));rw[zYd]at h2;simp only[dH,zYi,List.sum_cons]at *; omega
def psH (b:List Int):List (Nat×xN):=[(1061,.box [zD yA b])]
def psL (b:List Int):List (List AV):=(qI b.length b).map λp=>[wI p.1,iA (p.2:Int)]
theorem DN (b:List Int):zN 149 [zD yA b] [] (.fn 184 [.ptr 1061 0 0]) (psH b):=by
 unfold psH;refine eM call149 λF hF=>?_
 repeat' (first|(refine zE ?_;first|refine uG (kX (v:=AV.sl _ _) 1061 rfl rfl) rfl rfl rfl ?_|refine vK tok rfl rfl ?_|refine qC ?_)|(first|refine xS ?_|refine yZ ?_|refine vA rfl ?_|refine zX rfl ?_|refine zQ rfl ?_|refine xJ rfl (λhc=>?_) (λhc=>?_)|refine yX ?_|refine yU ?_|refine xA ?_|refine yS ?_))
 exact zL [1061] rfl rfl rfl rfl
theorem OG {n:Nat} {b:List Int} (hb:BY b) (hn:b.length<=n):qI n b=match prF b with
  |none=>[]
  |some p=>p::qI (n-1) (b.drop p.2):=by
 cases n with
 |zero=>
  have h0:b=[]:=zYc zB;subst h0;rfl
 |succ n=>rfl
theorem LE (b:List Int) (hb:BY b) (hl:b.length<=1000000):YA prog 184 [.ptr 1061 0 0] (psH b) (psL b):=by
 refine bP func184 rfl (λargs w=>call184 args w) rfl rfl rfl (λF y hro hit hY=>?_);unfold psH;refine WW ?_;refine fW (b.length+1) [1061] [1061] [0] [3,1000000,0] rfl (λzn T U zs=>∃(r:List Int) (pre:List (It×Nat)) (n:Nat),(qI b.length b=pre++qI n r/\BY r/\r.length<=n/\n<=1000000/\zn=n+1)/\zs=⟨(3,zD yA r)::(1000000,.gh pre.length)::T,U⟩) ?_;(conv=>whnf);refine⟨?_,?_⟩
 ·exact⟨b,[],b.length,⟨rfl,hb,zXc _,hl,rfl⟩,rfl⟩
 rintro zn st ⟨r,pre,n,⟨hp,hr,hrn,hn1,rfl⟩,rfl⟩;have kp:=zMi r hr zB;rw[OG hr hrn]at hp;have hrl:=zA yA r;unfold psL at hY⊢
 cases h:prF r with
 |none=>
  rw[h]at kp hp;rw[show zRq none= .tup [.agg [iA 0,iA 0,.sl false []],iA 0,bA false]from rfl]at kp;dsimp only at hp;rw[zX8]at hp;refine zU kp ?_;exact cS rfl (.inl (by rw[zXa,hp]))
 | some p=>
  rw[h]at kp hp;obtain⟨hp1,hp2⟩:=(zAi hr h).1;obtain⟨it,k⟩:=p;dsimp only at hp hp1 hp2;rw[show zRq (some (it,k))= .tup [wI it,iA (k:Int),bA true]from rfl]at kp
  have hys:((qI b.length b).map λp=>[wI p.1,iA (p.2:Int)])[pre.length]? =some [wI it,iA (k:Int)]:=by
   rw[hp,zXd,zX2 (zXc _),zZo];rfl
  have hlen:pre.length<((qI b.length b).map λp=>[wI p.1,iA (p.2:Int)]).length:=by rw[zXa,hp];simp
  have hn0:1<=n:=by omega
  generalize ((qI b.length b).map λp=>[wI p.1,iA (p.2:Int)])=xs at *;unfold wI at*
  (repeat' (first|refine qA ?_|refine xQ (λhc=>?_) (λhc=>?_)|refine wD (λhc=>?_)|(refine zE ?_;refine wB ?_;first|(first|(refine uI 134 ?_;first|refine xK (zI (kp) rfl rfl rfl rfl rfl) rfl ?_|refine uG (zI (kp) rfl rfl rfl rfl rfl) rfl rfl rfl ?_|refine aD (zI (kp) rfl rfl rfl rfl rfl) rfl rfl rfl ?_))|(refine ZE ?_;refine RO hit hY rfl rfl hys rfl rfl rfl ?_ ?_))|(refine zE ?_;first|refine SM ?_)|fail))
  ·refine⟨n-1+1,zB,r.drop k,pre++[(it,k)],n-1,⟨by rw[hp,zXy];rfl,λx hx=>hr x (zYl hx),by rw[zYd];omega,zB,rfl⟩,?_⟩;rw[zXb,zZ0];rfl
  ·exact cS rfl (.inr zB)
structure TaS where
 t:Nat
 g:Bool
 its:List It
def taC (s:TaS) (p:It×Nat):Bool:=decide (p.1.code=2)&&s.g
def OS (s:TaS) (p:It×Nat):TaS:=if taC s p=true then⟨s.t+p.2,s.g,s.its⟩else⟨s.t+p.2,decide (p.1.code=2)||(decide (p.1.code=7)||decide (p.1.code=4)),s.its++[p.1]⟩
def taX (N:Nat) (s:TaS) (p:It×Nat):Bool:=!taC s p&&decide (N<=s.its.length+1)
def YR (N:Nat):List (It×Nat)->TaS->TaS
 | [],s=>s
 |p::l,s=>if taX N s p=true then OS s p else YR N l (OS s p)
def taG (s0:TaS) (l:List (It×Nat)) (i:Nat):TaS:=(l.take i).foldl OS s0
theorem DO (s0:TaS) {l:List (It×Nat)} {i:Nat} {p:It×Nat} (h:l[i]? =some p):taG s0 l (i+1)=OS (taG s0 l i) p:=by
 unfold taG;rw[zZv,h,List.foldl_append];rfl
theorem IR {N:Nat}:∀(l:List (It×Nat)) (s:TaS),s.its.length<N->(YR N l s).its.length<=N
 | [],s,h=>yB3 h
 | p::l,s,h=>by
  unfold YR
  have h1:(OS s p).its.length<=s.its.length+1:=by
   unfold OS;split
   ·dsimp only;omega
   ·dsimp only;rw[zXb];simp
  split
  ·omega
  ·rename_i hx;refine IR l _ ?_;unfold taX at hx;unfold OS;cases hc:taC s p
   ·rw[hc]at hx;rw[zW8 zXx];simp only[yB5,zX1,zXi]at hx;dsimp only;rw[zXb];simp only[zXl,zYa];omega
   ·rw[zW9 rfl];exact h
theorem zB6 {N:Nat} {Pr:It->Prop}:∀(l:List (It×Nat)) (s:TaS),(∀x∈s.its,Pr x)->(∀p∈l,Pr p.1)->∀x∈(YR N l s).its,Pr x
 | [],s,h,_=>h
 | p::l,s,h,hl=>by
  have h1:∀x∈(OS s p).its,Pr x:=by
   unfold OS;split
   ·exact h
   ·intro x hx
    rcases zXs.1 hx with hx|hx
    ·exact h x hx
    ·rw[zX9.1 hx];exact hl p zS
  unfold YR;split
  ·exact h1
  ·exact zB6 l _ h1 λq hq=>hl q (by simp[hq])
theorem zKj {N:Nat}:∀(l:List (It×Nat)) (s:TaS),s.t<=(YR N l s).t/\(YR N l s).t<=s.t+dH l
 | [],s=>⟨zXc _,Nat.le_add_right _ _⟩
 |p::l,s=>by
  have h1:(OS s p).t=s.t+p.2:=by unfold OS;split<;>rfl
  have h2:=zKj (N:=N) l (OS s p);have h3:dH (p::l)=p.2+dH l:=by simp[dH]
  unfold YR
  split<;>omega
theorem IS:∀(n:Nat) (b:List Int),(qI n b).length<=n
 |0,_=>zXc _
 |n+1,b=>by
  unfold qI;split
  ·exact zXp _
  ·rename_i q _;have:=IS n (b.drop q.2);rw[zXl];omega
def DP (b:List Int) (g:Bool):AV:= .agg [zD yA b,bA g]
theorem IT (k N:Nat):zN 100 [iA k,.ptr 1053 0 0] [(1053,.box [iA N])] (bA (decide (N<=k))) [(1053,.box [iA N])]:=by
 by_cases h:N<=k
 ·rw[zXg h];refine eM call100 λF hF=>?_
  refine WW ?_;exact zL [1053] rfl rfl rfl rfl
 ·rw[zXj h];refine eM call100 λF hF=>?_
  refine WW ?_;exact zL [1053] rfl rfl rfl rfl
theorem zO0 (b:List Int) (hb:BY b) (hl:b.length<=1000) (g:Bool) (N:Nat) (hN:1<=N/\N<=1000):zN 99 [DP b g,.fn 100 [.ptr 1053 0 0]] [(1053,.box [iA N])]
  (.tup [DP (b.drop (YR N (qI b.length b) ⟨0,g,[]⟩).t) (YR N (qI b.length b) ⟨0,g,[]⟩).g,zD wI (YR N (qI b.length b) ⟨0,g,[]⟩).its]) [(1053,.box [iA N])]:=by
 have kp:=DN b;have ht:=LE b hb zB;have hbl:=zA yA b;have hr1:=(zKj (N:=N) (qI b.length b) ⟨0,g,[]⟩).2;have hr2:=IQ (n:=b.length) hb;dsimp only at hr1;have hL:psL b=(qI b.length b).map λp=>[wI p.1,iA (p.2:Int)]:=rfl
 have hG0:taG ⟨0,g,[]⟩ (qI b.length b) 0=⟨0,g,[]⟩:=rfl
 have hGn:∀i,(taG ⟨0,g,[]⟩ (qI b.length b) i).its.length<=i:=λi=>by
  induction i with
  |zero=>exact zXc _
  | succ i ih=>
   cases h:(qI b.length b)[i]? with
   | none=>
    have:taG ⟨0,g,[]⟩ (qI b.length b) (i+1)=taG ⟨0,g,[]⟩ (qI b.length b) i:=by
     unfold taG;rw[zZv,h];simp
    rw[this];omega
   |some p=>
    rw[DO _ h];unfold OS;split
    ·dsimp only;omega
    ·dsimp only;rw[zXb];simp only[zXl,zYa];omega
 rw[show DP b g= .agg [zD yA b,bA g]from rfl];rw[show DP (b.drop (YR N (qI b.length b) ⟨0,g,[]⟩).t) (YR N (qI b.length b) ⟨0,g,[]⟩).g= .agg [zD yA (b.drop (YR N (qI b.length b) ⟨0,g,[]⟩).t),bA (YR N (qI b.length b) ⟨0,g,[]⟩).g]from rfl];generalize hr:YR N (qI b.length b) ⟨0,g,[]⟩=r at *;unfold psH at kp ht;refine eM call99 λF hF=>?_
 (have zc1:=kp;(repeat' (first|refine WS ?_|refine SG (I2 (λhc=>?_) (λhc=>?_))|refine SG (λhc=>?_)|(refine zE ?_;first|refine SM ?_)|(first|first|refine SR ?_|refine SK (I2 (λhc=>?_) (λhc=>?_))|refine SK (λhc=>?_)|fail|refine wJ ?_|refine wK ?_)|fail))<;>clear zc1)
 refine vT 6 0 1051 3 rfl rfl rfl rfl rfl ?_
 refine vO hF ht rfl [2,3,4,6,7,8,1051,1053] [2,3,4,6,7,8] rfl rfl rfl rfl rfl rfl rfl rfl rfl (λk ys h=>?_) (λi=>[(2,.box [zD yA b,bA g]),(3,.box [.fn 100 [.ptr 1053 0 0]]),(4,.box [.s (.slice none 0 0),bA false]),(6,.box [.ref 1051 0 ((taG ⟨0,g,[]⟩ (qI b.length b) i).its.map wI).length]),(7,.box [iA ((taG ⟨0,g,[]⟩ (qI b.length b) i).t:Int)]),(8,.box [bA (taG ⟨0,g,[]⟩ (qI b.length b) i).g]),(1051,.arr 3 ((taG ⟨0,g,[]⟩ (qI b.length b) i).its.map wI) true),(1053,.box [iA N])]) (λi=>YR N ((qI b.length b).drop i) (taG ⟨0,g,[]⟩ (qI b.length b) i)=r)
  (T:=[(2,.ptr 2 0 0),(3,.ptr 3 0 0),(4,.ptr 4 0 0),(6,.ptr 6 0 0),(7,.ptr 7 0 0),(8,.ptr 8 0 0)]) rfl hr (λi ys q hys hI F1 h1 h2=>?_) (λhI=>?_)
 ·rw[hL,zXd,zXn]at h;obtain⟨x,_,rfl⟩:=h;rfl
 ·rw [hL,zXd,zXn]at hys;obtain⟨p,hp,rfl⟩:=hys;have e1:=DO (⟨0,g,[]⟩:TaS) hp;have hil:i<(qI b.length b).length:=(zXv.1 hp).1
  have e2:(qI b.length b).drop i=p::(qI b.length b).drop (i+1):=by
   rw[zZ5 hil]
   congr 1
   exact(zXv.1 hp).2
  rw[e2]at hI;rw[e1];have hgi:=hGn i;have hps:=IQ (n:=b.length) hb;generalize taG ⟨0,g,[]⟩ (qI b.length b) i=s at*
  have hst:s.t+p.2<=b.length:=by
   have h9:(OS s p).t=s.t+p.2:=by unfold OS;split<;>rfl
   unfold YR at hI;split at hI
   ·rw[<-h9,hI];omega
   ·have:=(zKj (N:=N) ((qI b.length b).drop (i+1)) (OS s p)).1;rw[hI]at this;omega
  have hpl:=IS b.length b;have hi3:i<=1000:=by omega
  clear hp hil e1 e2 hL hG0 hGn hps ht kp;generalize (qI b.length b).drop (i+1)=l2 at *;generalize (qI b.length b).length=L at *;obtain⟨t0,g0,its⟩:=s;obtain⟨⟨cd,kd,py⟩,n⟩:=p;dsimp only at hst hgi;have him:=zA wI its;rw[show wI (({code:=cd,kind:=kd,pay:=py}:It),n).fst= .agg [iA cd,iA kd,zD yA py]from rfl];refine WW ?_;refine⟨rfl,λF2 g1 g2=>?_⟩;dsimp only;by_cases hc:cd=2
  ·subst hc;cases g0
   ·have e3:OS ⟨t0,false,its⟩ (⟨2,kd,py⟩,n)=⟨t0+n,true,its++[⟨2,kd,py⟩]⟩:=rfl;have e4:taX N ⟨t0,false,its⟩ (⟨2,kd,py⟩,n)=decide (N<=its.length+1):=rfl;unfold YR at hI;rw[e3,e4]at hI;rw[e3];have kst:=IT (its.map wI++[AV.agg [iA 2,iA kd,zD yA py]]).length N;rw[show decide (N<=(its.map wI++[AV.agg [iA 2,iA kd,zD yA py]]).length)=decide (N<=its.length+1) by simp]at kst;by_cases hs:N<=its.length+1
    ·rw[zXg hs]at kst;rw[zW9 (zXg hs)]at hI;subst hI;have hbt:=zA yA b;have kc:=wA (b.drop ((t0:Int)+(n:Int)).toNat) PP;have eD:zD yA (b.drop (t0+n))=zD yA (b.drop ((t0:Int)+(n:Int)).toNat):=by rw[show((t0:Int)+(n:Int)).toNat=t0+n by omega]
     dsimp only;rw[eD];rw[show zD wI (its++[⟨2,kd,py⟩])= .sl false (its.map wI++[AV.agg [iA 2,iA kd,zD yA py]]) by unfold zD;rw[zXf];rfl]
     (have zc1:=kst;have zc2:=kc;(repeat' (first|refine WS ?_|refine SG (I2 (λhc=>?_) (λhc=>?_))|refine SG (λhc=>?_)|(refine zE ?_;first|refine SM ?_)|(first|first|refine SR ?_|refine SK (I2 (λhc=>?_) (λhc=>?_))|refine SK (λhc=>?_)|fail|refine wJ ?_|refine wK ?_)|fail))<;>clear zc1 zc2)
     refine zH [1053] rfl rfl ?_ rfl
     show AV.tup [_,AV.sl false (List.take (its.map wI++[AV.agg [iA 2,iA kd,zD yA py]]).length (its.map wI++[AV.agg [iA 2,iA kd,zD yA py]]))]=_
     rw[zXe];rfl
    ·rw[zXj hs]at kst;rw[zW8 zBu]at hI;dsimp only;rw[zXf,show [(⟨2,kd,py⟩:It)].map wI=[AV.agg [iA 2,iA kd,zD yA py]]from rfl]
     (have zc1:=kst;(repeat' (first|refine WS ?_|refine SG (I2 (λhc=>?_) (λhc=>?_))|refine SG (λhc=>?_)|(refine zE ?_;first|refine SM ?_)|(first|first|refine SR ?_|refine SK (I2 (λhc=>?_) (λhc=>?_))|refine SK (λhc=>?_)|fail|refine wJ ?_|refine wK ?_)|fail))<;>clear zc1)
     exact⟨rfl,hI⟩
   ·have e3:OS ⟨t0,true,its⟩ (⟨2,kd,py⟩,n)=⟨t0+n,true,its⟩:=rfl;have e4:taX N ⟨t0,true,its⟩ (⟨2,kd,py⟩,n)=false:=rfl;unfold YR at hI;rw[e3,e4,zW8 zXx]at hI;rw[e3];dsimp only
    (repeat' (first|refine WS ?_|refine SG (I2 (λhc=>?_) (λhc=>?_))|refine SG (λhc=>?_)|(refine zE ?_;first|refine SM ?_)|(first|first|refine SR ?_|refine SK (I2 (λhc=>?_) (λhc=>?_))|refine SK (λhc=>?_)|fail|refine wJ ?_|refine wK ?_)|fail))
    exact⟨rfl,hI⟩
  ·have ex:taC ⟨t0,g0,its⟩ (⟨cd,kd,py⟩,n)=false:=by
    unfold taC;rw[zXj hc,zY2]
   have e4:taX N ⟨t0,g0,its⟩ (⟨cd,kd,py⟩,n)=decide (N<=its.length+1):=by
    unfold taX;rw[ex];rfl
   by_cases h7:cd=7
   ·subst h7;have e3:OS ⟨t0,g0,its⟩ (⟨7,kd,py⟩,n)=⟨t0+n,true,its++[⟨7,kd,py⟩]⟩:=rfl;unfold YR at hI;rw[e3,e4]at hI;rw[e3];have kst:=IT (its.map wI++[AV.agg [iA 7,iA kd,zD yA py]]).length N;rw[show decide (N<=(its.map wI++[AV.agg [iA 7,iA kd,zD yA py]]).length)=decide (N<=its.length+1) by simp]at kst;by_cases hs:N<=its.length+1
    ·rw[zXg hs]at kst;rw[zW9 (zXg hs)]at hI;subst hI;have hbt:=zA yA b;have kc:=wA (b.drop ((t0:Int)+(n:Int)).toNat) PP;have eD:zD yA (b.drop (t0+n))=zD yA (b.drop ((t0:Int)+(n:Int)).toNat):=by rw[show((t0:Int)+(n:Int)).toNat=t0+n by omega]
     dsimp only;rw[eD];rw[show zD wI (its++[⟨7,kd,py⟩])= .sl false (its.map wI++[AV.agg [iA 7,iA kd,zD yA py]]) by unfold zD;rw[zXf];rfl]
     (have zc1:=kst;have zc2:=kc;(repeat' (first|refine WS ?_|refine SG (I2 (λhc=>?_) (λhc=>?_))|refine SG (λhc=>?_)|(refine zE ?_;first|refine SM ?_)|(first|first|refine SR ?_|refine SK (I2 (λhc=>?_) (λhc=>?_))|refine SK (λhc=>?_)|fail|refine wJ ?_|refine wK ?_)|fail))<;>clear zc1 zc2)
     refine zH [1053] rfl rfl ?_ rfl
     show AV.tup [_,AV.sl false (List.take (its.map wI++[AV.agg [iA 7,iA kd,zD yA py]]).length (its.map wI++[AV.agg [iA 7,iA kd,zD yA py]]))]=_
     rw[zXe];rfl
    ·rw[zXj hs]at kst;rw[zW8 zBu]at hI;dsimp only;rw[zXf,show [(⟨7,kd,py⟩:It)].map wI=[AV.agg [iA 7,iA kd,zD yA py]]from rfl]
     (have zc1:=kst;(repeat' (first|refine WS ?_|refine SG (I2 (λhc=>?_) (λhc=>?_))|refine SG (λhc=>?_)|(refine zE ?_;first|refine SM ?_)|(first|first|refine SR ?_|refine SK (I2 (λhc=>?_) (λhc=>?_))|refine SK (λhc=>?_)|fail|refine wJ ?_|refine wK ?_)|fail))<;>clear zc1)
     exact⟨rfl,hI⟩
   by_cases h4:cd=4
   ·subst h4;have e3:OS ⟨t0,g0,its⟩ (⟨4,kd,py⟩,n)=⟨t0+n,true,its++[⟨4,kd,py⟩]⟩:=rfl;unfold YR at hI;rw[e3,e4]at hI;rw[e3];have kst:=IT (its.map wI++[AV.agg [iA 4,iA kd,zD yA py]]).length N;rw[show decide (N<=(its.map wI++[AV.agg [iA 4,iA kd,zD yA py]]).length)=decide (N<=its.length+1) by simp]at kst;by_cases hs:N<=its.length+1
    ·rw[zXg hs]at kst;rw[zW9 (zXg hs)]at hI;subst hI;have hbt:=zA yA b;have kc:=wA (b.drop ((t0:Int)+(n:Int)).toNat) PP;have eD:zD yA (b.drop (t0+n))=zD yA (b.drop ((t0:Int)+(n:Int)).toNat):=by rw[show((t0:Int)+(n:Int)).toNat=t0+n by omega]
     dsimp only;rw[eD];rw[show zD wI (its++[⟨4,kd,py⟩])= .sl false (its.map wI++[AV.agg [iA 4,iA kd,zD yA py]]) by unfold zD;rw[zXf];rfl]
     (have zc1:=kst;have zc2:=kc;(repeat' (first|refine WS ?_|refine SG (I2 (λhc=>?_) (λhc=>?_))|refine SG (λhc=>?_)|(refine zE ?_;first|refine SM ?_)|(first|first|refine SR ?_|refine SK (I2 (λhc=>?_) (λhc=>?_))|refine SK (λhc=>?_)|fail|refine wJ ?_|refine wK ?_)|fail))<;>clear zc1 zc2)
     refine zH [1053] rfl rfl ?_ rfl
     show AV.tup [_,AV.sl false (List.take (its.map wI++[AV.agg [iA 4,iA kd,zD yA py]]).length (its.map wI++[AV.agg [iA 4,iA kd,zD yA py]]))]=_
     rw[zXe];rfl
    ·rw[zXj hs]at kst;rw[zW8 zBu]at hI;dsimp only;rw[zXf,show [(⟨4,kd,py⟩:It)].map wI=[AV.agg [iA 4,iA kd,zD yA py]]from rfl]
     (have zc1:=kst;(repeat' (first|refine WS ?_|refine SG (I2 (λhc=>?_) (λhc=>?_))|refine SG (λhc=>?_)|(refine zE ?_;first|refine SM ?_)|(first|first|refine SR ?_|refine SK (I2 (λhc=>?_) (λhc=>?_))|refine SK (λhc=>?_)|fail|refine wJ ?_|refine wK ?_)|fail))<;>clear zc1)
     exact⟨rfl,hI⟩
   ·have e3:OS ⟨t0,g0,its⟩ (⟨cd,kd,py⟩,n)=⟨t0+n,false,its++[⟨cd,kd,py⟩]⟩:=by
     unfold OS;rw[ex,zW8 zXx];dsimp only;rw[zXj hc,zXj h7,zXj h4];rfl
    unfold YR at hI;rw[e3,e4]at hI;rw[e3];have kst:=IT (its.map wI++[AV.agg [iA cd,iA kd,zD yA py]]).length N;rw[show decide (N<=(its.map wI++[AV.agg [iA cd,iA kd,zD yA py]]).length)=decide (N<=its.length+1) by simp]at kst;by_cases hs:N<=its.length+1
    ·rw[zXg hs]at kst;rw[zW9 (zXg hs)]at hI;subst hI;have hbt:=zA yA b;have kc:=wA (b.drop ((t0:Int)+(n:Int)).toNat) PP;have eD:zD yA (b.drop (t0+n))=zD yA (b.drop ((t0:Int)+(n:Int)).toNat):=by rw[show((t0:Int)+(n:Int)).toNat=t0+n by omega]
     dsimp only;rw[eD];rw[show zD wI (its++[⟨cd,kd,py⟩])= .sl false (its.map wI++[AV.agg [iA cd,iA kd,zD yA py]]) by unfold zD;rw[zXf];rfl]
     (have zc1:=kst;have zc2:=kc;(repeat' (first|refine WS ?_|refine SG (I2 (λhc=>?_) (λhc=>?_))|refine SG (λhc=>?_)|(refine zE ?_;first|refine SM ?_)|(first|first|refine SR ?_|refine SK (I2 (λhc=>?_) (λhc=>?_))|refine SK (λhc=>?_)|fail|refine wJ ?_|refine wK ?_)|fail))<;>clear zc1 zc2)
     refine zH [1053] rfl rfl ?_ rfl
     show AV.tup [_,AV.sl false (List.take (its.map wI++[AV.agg [iA cd,iA kd,zD yA py]]).length (its.map wI++[AV.agg [iA cd,iA kd,zD yA py]]))]=_
     rw[zXe];rfl
    ·rw[zXj hs]at kst;rw[zW8 zBu]at hI;dsimp only;rw[zXf,show [(⟨cd,kd,py⟩:It)].map wI=[AV.agg [iA cd,iA kd,zD yA py]]from rfl]
     (have zc1:=kst;(repeat' (first|refine WS ?_|refine SG (I2 (λhc=>?_) (λhc=>?_))|refine SG (λhc=>?_)|(refine zE ?_;first|refine SM ?_)|(first|first|refine SR ?_|refine SK (I2 (λhc=>?_) (λhc=>?_))|refine SK (λhc=>?_)|fail|refine wJ ?_|refine wK ?_)|fail))<;>clear zc1)
     exact⟨rfl,hI⟩
 ·have e1:taG ⟨0,g,[]⟩ (qI b.length b) (psL b).length=r:=by
   rw[hL,zXa]at hI⊢;rw[yBb]at hI;exact hI
  rw[e1];have hbt:=zA yA b;have kc:=wA (b.drop ((r.t:Nat):Int).toNat) PP
  (have zc1:=kc;(repeat' (first|refine WS ?_|refine SG (I2 (λhc=>?_) (λhc=>?_))|refine SG (λhc=>?_)|(refine zE ?_;first|refine SM ?_)|(first|first|refine SR ?_|refine SK (I2 (λhc=>?_) (λhc=>?_))|refine SK (λhc=>?_)|fail|refine wJ ?_|refine wK ?_)|fail))<;>clear zc1)
  refine zH [1053] rfl rfl ?_ rfl
  show AV.tup [_,AV.sl false (List.take (r.its.map wI).length (r.its.map wI))]=_
  rw[zXe];rfl
section
variable {P:Program} {K0:List Nat} {F:Fr K0} {m:Nat} {ops:Array Oper} {rest:List Oper} {fs:List FP} {tm:List (Nat×AV)} {h:List (Nat×xN)}
theorem zAj {Q:List FP->St->Prop} (t K sz:Nat) (hv:zG tm t= .s (.slice none 0 0)) (hK:(zC h K).isNone=true) (hp:Nat.ble 1 sz=true) (h1:zZ P F m ops false rest ⟨(t,.ref K 0 0)::tm,(K,.arr sz [] true)::h⟩ fs Q):zZ P F m ops false rest ⟨tm,h⟩ fs Q:=
 ⟨λa w R=>h1.run a w (wH.virt R t K sz hv hK hp)⟩
end
theorem zTs (m:Ms) (h:YQ m):zN 118 [zY m] [] (bA false) []:=by
 obtain⟨k,tk,ar,da⟩:=m;obtain⟨h1,h2⟩:=h;dsimp only at h1 h2;subst h1;have c:=zTq h2;rw[show zY ⟨k,[],ar,da⟩= .agg [iA k,zD yA [],zD iA ar,zD yA da]from rfl]at *; refine eM call118 λF hF=>?_
 refine zU c ?_;exact zK
theorem zV2 (l:List Ms) (hl9:l.length<=1000000) (h:∀m∈l,YQ m):zN 167 [zD zY l,.fn 118 []] [] (iA (-1)) []:=by
 have hl:=zA zY l;refine eM call167 λF hF=>?_
 refine WW ?_;refine yB (l) [] [] [0,1,7] [8,0,1,7] rfl (λi pre T U=>⟨(8,iA i)::T,U⟩) ?_;(conv=>whnf);refine⟨by rfl,?_,?_⟩
 ·intro i pre x post hx hi;have hy:=yP zY hx hi;have hlt:=yF hx hi;have c:=zTs x (h x (xV hx));clear hx;refine zU c ?_;rfl
 ·(refine WW ?_)
  exact zK
theorem zTt (l:List Ms) (hl9:l.length<=1000000) (h:∀m∈l,YQ m):zN 117 [zD zY l,.fn 118 []] [] (zD zY l) []:=by
 have c:=zV2 l hl9 h;have hl:=zA zY l;refine eM call117 λF hF=>?_
 refine zU c ?_;exact zK
theorem DQ (l:List Ms) (hl9:l.length<=1000000) (h:∀m∈l,YQ m):zN 67 [zD zY l] [] (zD zY l) []:=by
 have c:=zTt l hl9 h;have hl:=zA zY l;refine eM call67 λF hF=>?_
 refine zU c ?_;exact zK
theorem zKk (y:Int):0<=gC y/\gC y<256:=by
 unfold gC;have e:IntKind.u8.wrap y=y % 256:=by simp[IntKind.wrap,IntKind.signed,IntKind.bits]
 rw[e];omega
theorem zKl {l:List Vw} (h:∀v∈l,DX v):BY (ZM l):=λx hx=>by
 unfold ZM at hx;obtain⟨y,hy,hx⟩:=yAv.1 hx;obtain⟨v,hv,rfl⟩:=zYo.1 hy;have hb:=h v hv;have hc:=SY hb.c v.co.length (zXc _) hb.n;have hp:=gD v.co.length hb.n;have hs:=zQ3 (n:=vC v.co v.co.length) hc.1 zB;unfold vwF at hx;simp only[zZx,zZj,zYq,zYo]at hx
 rcases hx with rfl|rfl|rfl|⟨y,_,rfl⟩
 ·unfold LS
  split<;>split<;>omega
 ·omega
 ·exact zKk _
 ·exact zKk _
theorem zTu (l:List Rq) (v:List Vw) (now:Int) (n:Nat):BY (cqL l v now n):=λx hx=>by
 unfold cqL at hx;obtain⟨i,_,rfl⟩:=zYo.1 hx;unfold cqF;split
 ·have:=zFk ((l.getD (i/3) default).legs.getD (i % 3) default) v now;omega
 ·omega
theorem zP5 (d:xP) (hq:0<=d.rg.ag.req/\d.rg.ag.req<=4) (v:List Vw) (now:Int) (n0:0<=now) (n1:now<=1073741824) (hn:v.length<=4) (hb:∀w∈v,DX w):YQ (OV d v now):=by
 have h1:=cV hb;have h2:=eI [now];have h3:(cqL d.rq v now (d.rg.ag.req.toNat*3)).length=d.rg.ag.req.toNat*3:=by simp[cqL]
 refine⟨rfl,by dsimp only[OV,stM];omega,.cons zB .nil,by simp[OV,stM],?_,.inl rfl,.inl ⟨rfl,rfl⟩,?_⟩
 ·intro x hx
  rcases zXs.1 hx with hx|hx
  ·exact zKl hb x hx
  ·exact zTu _ _ _ _ x hx
 ·show(([now].map uZ).flatten).length+1+(ZM v++cqL d.rq v now (d.rg.ag.req.toNat*3)).length<=200
  rw[zXb];simp only[zXl,zYa]at h2;omega
def ZH (now:Int) (v:List Vw):Ms:=⟨21,[],[now],ZM v⟩
theorem zV3 (v:List Vw) (now:Int) (n0:0<=now) (n1:now<=1073741824) (hn:v.length<=4) (hb:∀w∈v,DX w):YQ (ZH now v):=by
 have h1:=cV hb;have h2:=eI [now];refine⟨rfl,by dsimp only[ZH];omega,.cons zB .nil,by simp[ZH],zKl hb,.inl rfl,.inl ⟨rfl,rfl⟩,?_⟩
 show(([now].map uZ).flatten).length+1+(ZM v).length<=200
 simp only[zXl,zYa]at h2;omega
theorem zKm (now:Int) (v:List Vw) (hn:v.length<=1000) (hb:∀w∈v,DX w):zN 32 [iA now,zD vL v] [] (zY (ZH now v)) []:=by
 have kr:=zFj v hn hb;have hrl:=zA yA (ZM v);refine eM call32 λF hF=>?_
 refine zU kr ?_;refine zH [] rfl rfl ?_ rfl;exact zX7 (λz=>AV.agg [iA 21,AV.sl false [],AV.sl false [iA now],AV.sl false z]) zXe
def ZI (e:En):List Int:=[e.ag,e.ki,e.co]
def trM (now:Int) (en:List En):Ms:=⟨18,[],now::((en.take 16).map ZI).flatten,[]⟩
theorem zW3 (now:Int) (n0:0<=now) (n1:now<=1073741824) (en:List En) (h:∀e∈en,EnK e):YQ (trM now en):=by
 have hl:(en.take 16).length<=16:=by rw[zXw];omega
 have hm:∀e∈en.take 16,EnK e:=λe he=>h e (zY1 he)
 unfold trM;generalize en.take 16=l at*
 have h3:((l.map ZI).flatten).length=3*l.length:=by
  clear hm hl
  induction l with
  |nil=>rfl
  |cons e l ih=>rw[zYi,zZ9,zXb,ih,zXl];show 3+_=_;omega
 have hz:((((l.map ZI).flatten).map uZ).flatten).length<=4*l.length:=by
  clear h3 hl
  induction l with
  |nil=>simp
  |cons e l ih=>
   have ih:=ih λx hx=>hm x VK
   have he:=hm e zS;have e1:=DM (n:=e.ag) (by have:=he.a;omega);have e2:=zV0 (n:=e.ki) (by have:=he.k;omega);have e3:=DM (n:=e.co) (by have:=he.c;omega);rw[zYi,zZ9,zXf,yAh,zXb,zXl];simp only[ZI,zYi,zY6,zZ9,List.flatten_nil,zXb,zX8];omega
 have e0:=(jR now).2;refine⟨rfl,by dsimp only;omega,?_,by dsimp only;rw[zXl];omega,λx hx=>(by cases hx),.inr rfl,.inr ⟨.inr rfl,(l.length:Int),?_,zB,by show(0:Int)<=_;omega,by show _<=(16:Int);omega⟩,?_⟩
 ·refine .cons zB ?_;intro x hx;obtain⟨y,hy,hx⟩:=yAv.1 hx;obtain⟨e,he,rfl⟩:=zYo.1 hy;have hk:=hm e he;have h1:=hk.a;have h2:=hk.k;have h4:=hk.c;simp only[ZI,zYq,yBd,yCo]at hx;omega
 ·show((now::(l.map ZI).flatten).length:Int)=1+3*(l.length:Int)
  rw[zXl];omega
 ·show(((now::(l.map ZI).flatten).map uZ).flatten).length+1+0<=200
  rw[zYi,zZ9,zXb];omega
def tlF (d:xP) (vw:List Vw) (now:Int) (k:Nat) (R:List (List Ms)) (en:List En):List Ms:=(R.getD k []++[OV d vw now])++(if d.au.getD k default=true then [trM now en]else [])
theorem zP6 (d:xP) (hq:0<=d.rg.ag.req/\d.rg.ag.req<=4) (v:List Vw) (now:Int) (n0:0<=now) (n1:now<=1073741824) (hn:v.length<=4) (hb:∀w∈v,DX w) (k:Nat) (R:List (List Ms)) (hR:∀l∈R,l.length<=1000/\∀m∈l,YQ m) (hk:k<R.length) (en:List En) (h:∀e∈en,EnK e):(tlF d v now k R en).length<=1002/\∀m∈tlF d v now k R en,YQ m:=by
 have hr:R.getD k []∈R:=by
  rw[zXh,zXr hk];exact zZy _
 obtain⟨h1,h2⟩:=hR _ hr;unfold tlF;refine⟨?_,λm hm=>?_⟩
 ·rw[zXb,zXb];split
  ·simp only[zXl,zYa];omega
  ·simp only[zXl,zYa];omega
 ·rcases zXs.1 hm with hm|hm
  ·rcases zXs.1 hm with hm|hm
   ·exact h2 m hm
   ·rw[zX9.1 hm];exact zP5 d hq v now n0 n1 hn hb
  ·split at hm
   ·rw[zX9.1 hm];exact zW3 now n0 n1 en h
   ·cases hm
theorem zW4 (en:List En):en.take (min ((en.map jZ).length:Int) 16).toNat=en.take 16:=by
 rw[zXa];by_cases h:en.length<=16
 ·rw[zXk zB,zXk zB]
 ·congr 1
  omega
theorem zO1 (y:Cy) (n0:0<=y.now) (n1:y.now<=1073741824) (a k s:Nat) (ha:a<y.ds.length) (hd:eU (y.ds.getD a default)) (hq:0<=(y.ds.getD a default).rg.ag.req/\(y.ds.getD a default).rg.ag.req<=4) (hn:y.vw.length<=4) (hb:∀w∈y.vw,DX w) (hk:k<(y.ds.getD a default).au.length)
  (R:List (List Ms)) (hR:∀l∈R,l.length<=1000/\∀m∈l,YQ m) (hkR:k<R.length) (en:List En) (he:∀e∈en,EnK e) (hel:en.length<=100000):
  zN 66 [uM y,plA a k s,zD aN R,zD jZ en] [] (zD zY (tlF (y.ds.getD a default) y.vw y.now k R en)) []:=by
 have ht:=zP6 _ hq y.vw y.now n0 n1 hn hb k R hR hkR en he;have kv:=DQ (tlF (y.ds.getD a default) y.vw y.now k R en) zB ht.2;have ks:=zFo (y.ds.getD a default) hd hq y.vw y.now zB hb;have hyd:=zM zJ y.ds a ha;have hyr:=zM aN R k hkR;have hyk:=zM bA (y.ds.getD a default).au k hk;have hlr:=zA aN R;have hle:=zA jZ en;have hlk:=zA bA (y.ds.getD a default).au;have hR1:=(hR _ (yC R k hkR)).1;have eR:R.getD k default=R.getD k []:=rfl;unfold uM YC;unfold tlF at kv⊢;rw[eR]at hyr hR1;generalize OV (y.ds.getD a default) y.vw y.now=st at *;generalize R.getD k []=rp at *;have hlp:=zA zY rp;unfold aN zD at hyr;generalize y.ds.getD a default=d at *;unfold zJ wL at hyd ks;refine eM call66 λF hF=>?_
 refine zU ks ?_;refine zAj 25 1001 4 rfl rfl rfl ?_;generalize d.au.getD k default=b at *;cases b
 ·have e1:zD zY ((rp++[st])++if false=true then [trM y.now en]else [])= .sl false (rp.map zY++[zY st]):=by
   rw[zW8 zXx,zX8];unfold zD;rw[zXf];rfl
  rw[e1]at kv⊢
  (have zc1:=ks;(repeat' (first|refine qA ?_|refine xQ (λhc=>?_) (λhc=>?_)|refine wD (λhc=>?_)|(refine zE ?_;first|refine SM ?_)|fail))<;>clear zc1)
  (refine uI 67 ?_;refine jY [] [85] rfl ?_;(conv=>whnf);(try simp only[zYf,zXe]);first|refine xK (zI (kv) rfl rfl rfl rfl rfl) rfl ?_|refine uG (zI (kv) rfl rfl rfl rfl rfl) rfl rfl rfl ?_|refine aD (zI (kv) rfl rfl rfl rfl rfl) rfl rfl rfl ?_)
  (repeat' (first|refine qA ?_|refine xQ (λhc=>?_) (λhc=>?_)|refine wD (λhc=>?_)|(refine zE ?_;first|refine SM ?_)|fail))
  exact zK
 ·have e1:zD zY ((rp++[st])++if true=true then [trM y.now en]else [])= .sl false ((rp.map zY++[zY st])++[zY (trM y.now en)]):=by
   rw[zW9 rfl];unfold zD;rw[zXf,zXf];rfl
  rw[e1]at kv⊢
  (have zc1:=ks;(repeat' (first|refine qA ?_|refine xQ (λhc=>?_) (λhc=>?_)|refine wD (λhc=>?_)|(refine zE ?_;first|refine SM ?_)|fail))<;>clear zc1)
  rw[zW4];have hl16:(en.take 16).length<=16:=by rw[zXw];omega
  have hl17:=zA jZ (en.take 16);rw[show zY (trM y.now en)= .agg [iA 18,.sl false [],.sl false ((y.now::((en.take 16).map ZI).flatten).map iA),.sl false []]from rfl]at *; generalize en.take 16=l16 at *;refine vW 57 rfl ?_;refine yB (l16) [11,57,1001] [1001] [10,11,63,64] [65,10,11,63,64] rfl (λi pre T U=>⟨(65,iA i)::T,(11,.box [iA 18,.s (.slice none 0 0),.ref 57 0 ((y.now::(pre.map ZI).flatten).map iA).length,.s (.slice none 0 0)])::(57,.arr 1 ((y.now::(pre.map ZI).flatten).map iA) true)::U⟩) ?_;(conv=>whnf);refine⟨by rfl,?_,?_⟩
  ·intro i pre x post hx hi;have hy:=yP jZ hx hi;have hlt:=yF hx hi
   have hpl:((pre.map ZI).flatten).length=3*pre.length:=by
    clear hx hi hy
    induction pre with
    |nil=>rfl
    |cons e l ih=>rw[zYi,zZ9,zXb,ih,zXl];show 3+_=_;omega
   have hpm:=zA iA (y.now::(pre.map ZI).flatten);rw[zXl]at hpm;rw[zXf,yAh];rw[show(y.now::((pre.map ZI).flatten++([x].map ZI).flatten)).map iA=(y.now::(pre.map ZI).flatten).map iA++[iA x.ag,iA x.ki,iA x.co] by simp[ZI]];unfold jZ OY at hy;clear hx kv ks e1;generalize (y.now::(pre.map ZI).flatten).map iA=X at *;refine WW ?_;rfl
  ·refine kK [11,1001] [10,11,63,64,65] rfl ?_
   (conv=>whnf)
   simp only[zYf,zXe]
   (repeat' (first|refine aU ?_|refine xQ (λhc=>?_) (λhc=>?_)|refine wD (λhc=>?_)|(refine zE ?_;first|(refine yT ?_;refine SI 82 rfl rfl rfl ?_;refine qX tok rfl rfl ?_))|refine SB ?_|fail))
   (refine uI 67 ?_;refine jY [] [85] rfl ?_;(conv=>whnf);(try simp only[zYf,zXe]);first|refine xK (zI (kv) rfl rfl rfl rfl rfl) rfl ?_|refine uG (zI (kv) rfl rfl rfl rfl rfl) rfl rfl rfl ?_|refine aD (zI (kv) rfl rfl rfl rfl rfl) rfl rfl rfl ?_)
   (repeat' (first|refine qA ?_|refine xQ (λhc=>?_) (λhc=>?_)|refine wD (λhc=>?_)|(refine zE ?_;first|refine SM ?_)|fail))
   exact zK
end Av
end Go.Proofs.YtmamjhmoegjapaaGreat
