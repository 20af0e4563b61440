/- Part 18. -/
import Derived.Test.YteajjdidebfcjaaGreatR17
import Derived.Scope
namespace Go.Proofs.YteajjdidebfcjaaGreat
namespace Av
open Tryz
set_option linter.all false
set_option maxRecDepth 4000
set_option maxHeartbeats 4000000
def TY (l:List Int) (hl:l.length<=1073741824):zN 66 [zD yA l] [] (.ref 1001 0 (l.map yA).length) [(1001,.arr 1 (l.map yA) false)]:=by
 have hll:=zA yA l;refine eM call66 λF hF=>?_
 refine yS 0 Z (λcap hx=>?_) ?_
 ·have:l=[]:=by simpa using hx
  subst this
  (repeat' (first|refine WZN ?_|((first|apply xM|apply wA)<;>intro hc)|fail))
  refine uH 2 1001 1 Z Z Z (yT ?_);exact zL [1001] Z Z Z Z
 ·repeat' (first|(refine zE ?_;first|refine vW tok Z Z ?_|(refine wL ?_;refine wG (xE tok (.inl ⟨rfl,rfl⟩) Z Z Z Z) Z ?_)|(refine xB ?_;refine uS (nw:=[1001]) (yH tok 1001 (xs:=[]) Z Z Z Z Z Z Z Z Z) Z Z Z ?_)|(refine xC ?_;refine wF tok Z Z Z Z Z Z Z (xO _ _ (λ_=>rfl)) Z Z Z zB Z ?_)|refine qJ ?_)|(first|refine xS ?_|refine xD ?_|refine vI Z ?_|refine zY Z ?_|refine zS Z ?_|refine xL Z (λhc=>?_) λhc=>?_|refine xA ?_|refine yT ?_|refine xF ?_|refine yW ?_))
  exact zL [1001] Z Z Z Z
def nmB (n:Int):Bool:=decide (0<=n/\n<=4294967295)
def zDu (n:Int):veF n=if nmB n=true then 0 else 8:=by
 unfold veF nmB;by_cases h:0<=n/\n<=4294967295
 ·rw[zZ8 h,yAe h,zZ8 Z]
 ·rw[zZ7 h,yAh h,zZ7 yAs]
def pyN (s:Shp) (gr:Int) (tok args:List Int):Nat->List Int
 |0=>tok
 |i+1=>(if(i:Int)=s.f/\0<s.g then pyN s gr tok args i++TH gr else pyN s gr tok args i)++TH (args.getD i default)
def pyG (s:Shp) (gr:Int) (tok args:List Int) (i:Nat):List Int:=if(i:Int)=s.f/\0<s.g then pyN s gr tok args i++TH gr else pyN s gr tok args i
theorem HY (s:Shp) (gr:Int) (tok args:List Int):∀i,(pyN s gr tok args i).length<=tok.length+12*i
 |0=>by show tok.length<=_;omega
 |i+1=>by
  have:=HY s gr tok args i;have h1:=cV gr;have h2:=cV (args.getD i default);unfold pyN
  split<;>simp only[yAd]<;>omega
def zRw (s:Shp) (gr:Int) (tok args:List Int) (i:Nat):(pyG s gr tok args i).length<=tok.length+12*i+6:=by
 have:=HY s gr tok args i;have h1:=cV gr;unfold pyG
 split<;>(try simp only[yAd])<;>omega
theorem zM8 (args:List Int):∀n,n<=args.length->(∃k,k<n/\nmB (args.getD k default)=false/\∀i,i<k->nmB (args.getD i default)=true)∨(∀i,i<n->nmB (args.getD i default)=true)
 |0,_=> .inr λi hi=>absurd hi (yCj _)
 | n+1,hn=>by
  rcases zM8 args n zB with⟨k,h1,h2,h3⟩|h
  ·exact .inl ⟨k,zB,h2,h3⟩
  ·cases hb:nmB (args.getD n default)with
   |true=>
    refine .inr λi hi=>?_
    by_cases e:i=n
    ·subst e;exact hb
    ·exact h i zB
   |false=>exact .inl ⟨n,zB,hb,h⟩
structure MsB (m:Ms):Prop where
 t:m.tok.length<=1000
 a:m.args.length<=1000
 d:m.data.length<=1000
theorem zM9 (m:Ms) (hm:MsB m):∃(xs:List AV) (e:Int),(e=0∨e=6)/\zN 134 [yB m] [] (.tup [.sl false xs,iA e]) []/\(∀f:Nat,(m.kind=2/\f=3)∨(m.kind=3/\f=1)∨(m.kind=4/\f=2)∨(m.kind=5/\f=1)->(e=0↔(m.tok.length=10/\m.data=[]/\m.args.length=f/\∀i,i<f->nmB (m.args.getD i default)=true))):=by
 obtain⟨s,ok,hs,c1⟩:=zRs m.kind;obtain⟨gr,ok2,hgr,hg0,c2⟩:=zMx s hs.g hs.f ((m.args.map iA).length:Int) (by have:=hm.a;simp;omega);have c3:=TY m.tok (by have:=hm.t;omega);have b1:=hm.t;have b2:=hm.a;have b3:=hm.d;have hlt:=zA yA m.tok;have hla:=zA iA m.args;have hld:=zA yA m.data
 have hq:∀f:Nat,(m.kind=2/\f=3)∨(m.kind=3/\f=1)∨(m.kind=4/\f=2)∨(m.kind=5/\f=1)->s.t=10/\s.f=f/\s.g=0/\s.da=0/\ok=true:=λf hf=>by
  rcases hf with⟨h,rfl⟩|⟨h,rfl⟩|⟨h,rfl⟩|⟨h,rfl⟩
  ·obtain⟨e1,e2⟩:=hs.k2 h;subst e1;exact⟨rfl,rfl,rfl,rfl,e2⟩
  ·obtain⟨e1,e2⟩:=hs.k3 h;subst e1;exact⟨rfl,rfl,rfl,rfl,e2⟩
  ·obtain⟨e1,e2⟩:=hs.k4 h;subst e1;exact⟨rfl,rfl,rfl,rfl,e2⟩
  ·obtain⟨e1,e2⟩:=hs.k5 h;subst e1;exact⟨rfl,rfl,rfl,rfl,e2⟩
 have hst:=hs.t;have hsf:=hs.f;have hsg:=hs.g;have hsd:=hs.da;clear hs;obtain⟨mk,tk,ar,da⟩:=m;dsimp only at *;rw[show yB ⟨mk,tk,ar,da⟩= .agg [iA mk,zD yA tk,zD iA ar,zD yA da]from Z];have hpl:=HY s gr tk ar;have hpg:=zRw s gr tk ar;have hp0:pyN s gr tk ar 0=tk:=rfl
 have hpG:∀i:Nat,pyG s gr tk ar i=if(i:Int)=s.f/\0<s.g then pyN s gr tk ar i++TH gr else pyN s gr tk ar i:=λ_=>rfl
 have hpS:∀i:Nat,pyN s gr tk ar (i+1)=pyG s gr tk ar i++TH (ar.getD i default):=λ_=>rfl
 generalize pyG s gr tk ar=pg at *;generalize pyN s gr tk ar=py at *;obtain⟨st,sf,sg,slo,shi,sda⟩:=s;dsimp only at *;rw[show ZN ⟨st,sf,sg,slo,shi,sda⟩= .agg [iA st,iA sf,iA sg,iA slo,iA shi,iA sda]from Z]at*
 cases ok with
 |false=>
  refine⟨[],6,.inr Z,?_,λf hf=>⟨λh=>absurd h xG,λh=>absurd (hq f hf).2.2.2.2 xG⟩⟩;clear hpl hpg hpG hpS hq;refine eM call134 λF hF=>?_
  refine zV c1 ?_;exact zJ
 |true=>
 by_cases h1:(tk.length:Int)=st
 case neg=>
  refine⟨[],6,.inr Z,?_,λf hf=>⟨λh=>absurd h xG,λh=>absurd (show(tk.length:Int)=st by have:=(hq f hf).1;omega) h1⟩⟩;clear hpl hpg hpG hpS hq;refine eM call134 λF hF=>?_
  refine zV c1 ?_;exact zJ
 by_cases h2:sda= -1∨(da.length:Int)=sda
 case neg=>
  have h2a:¬sda= -1:=λh=>h2 (.inl h)
  have h2b:¬(da.length:Int)=sda:=λh=>h2 (.inr h)
  refine⟨[],6,.inr Z,?_,λf hf=>⟨λh=>absurd h xG,λh=>absurd (show(da.length:Int)=sda by have:=(hq f hf).2.2.2.1;rw[h.2.1];simp;omega) h2b⟩⟩;clear hpl hpg hpG hpS hq h2;refine eM call134 λF hF=>?_
  refine zV c1 ?_;exact zJ
 cases ok2 with
 | false=>
  refine⟨[],6,.inr Z,?_,λf hf=>⟨λh=>absurd h xG,λh=>?_⟩⟩
  case refine_2=>
   obtain⟨q1,q2,q3,q4,_⟩:=hq f hf;have h5:=(hg0 q3).2;rw[yAe (show((ar.map iA).length:Int)=sf by omega)]at h5;cases h5
  clear hpl hpg hpG hpS hq
  rcases h2 with h2|h2
  ·(refine eM call134 λF hF=>?_)
   refine yR (vH c1 c2) ?_;exact zJ
  ·(refine eM call134 λF hF=>?_)
   refine yR (vH c1 c2) ?_;exact zJ
 |true=>
 by_cases h3:(da.length:Int)<=200
 case neg=>
  refine⟨[],6,.inr Z,?_,λf hf=>⟨λh=>absurd h xG,λh=>absurd (show(da.length:Int)<=200 by rw[h.2.1];simp) h3⟩⟩;clear hpl hpg hpG hpS hq
  rcases h2 with h2|h2
  ·(refine eM call134 λF hF=>?_)
   refine yR (vH c1 c2) ?_;exact zJ
  ·(refine eM call134 λF hF=>?_)
   refine yR (vH c1 c2) ?_;exact zJ
 have cg:=HX gr;have hlg:=zA yA (TH gr);have hvg:=cV gr
 rcases zM8 ar ar.length (yAb _)with⟨k,hk1,hk2,hk3⟩|hall
 ·refine⟨[],6,.inr Z,?_,λf hf=>⟨λh=>absurd h xG,λh=>?_⟩⟩
  case refine_2=>
   have:=h.2.2.2 k zB;rw[hk2]at this;cases this
  clear hq hg0;have hinv:∀i,i<k->veF (ar.getD i default)=0:=λi hi=>by rw[zDu,hk3 i hi,zZ8 Z]
  have hinv2:veF (ar.getD k default)=8:=by rw[zDu,hk2,zZ7 yAs]
  clear hk2 hk3
  rcases h2 with h2|h2
  all_goals
   refine eM call134 λF hF=>?_
   refine yR (gK c1 c2 c3) ?_
  all_goals
   refine qB 1001 Z ?_;refine xR (ar.length+1) [1001,1,4] [1,4] [1,4,6,64] [7,65,1,4,6,64] Z (λi T U zs=>(i<=k)/\zs=⟨(7,.ref 1001 0 ((py i).map yA).length)::(65,iA i)::T,(1001,.arr 1 ((py i).map yA) true)::U⟩) ?_;(conv=>whnf);refine⟨?_,?_,?_⟩
   ·refine⟨yAp _,?_⟩;rw[hp0];rfl
   ·rintro i st' hi ⟨hik,rfl⟩;have cv:=HX (ar.getD i default);have hy:=zM iA ar i zB;have hbl:=hpl i;have hb2:=hpg i;have hg:=hpG i;have hS:=hpS i;have hlp:=zA yA (py i);have hlv:=zA yA (TH (ar.getD i default));have hvv:=cV (ar.getD i default)
    have hve:(i<k/\veF (ar.getD i default)=0)∨(i=k/\veF (ar.getD i default)=8):=by
     by_cases e:i=k
     ·subst e;exact .inr ⟨rfl,hinv2⟩
     ·exact .inl ⟨zB,hinv i zB⟩
    have hmS:(py (i+1)).map yA=(pg i).map yA++(TH (ar.getD i default)).map yA:=by rw[hS,yAi]
    have hmG:(pg i).map yA=if(i:Int)=sf/\0<sg then(py i).map yA++(TH gr).map yA else(py i).map yA:=by
     rw[hg];split
     ·rw[yAi]
     ·rfl
    rw[hmS];clear hS hg hpl hpg hpG hpS hp0 hmS c1 c2 c3 hinv hinv2;generalize (py i).map yA=A at *;generalize (pg i).map yA=B at *;generalize TH (ar.getD i default)=V at *;generalize veF (ar.getD i default)=ve at *;generalize ar.getD i default=a at *;generalize TH gr=W at *;by_cases hi1:(i:Int)=sf
    ·by_cases hi2:0<sg
     ·rw[zZ8 ⟨hi1,hi2⟩]at hmG;subst hmG
      rcases hve with⟨hv1,rfl⟩|⟨hv1,rfl⟩
      ·(refine yR (vH cg cv) ?_)
       exact⟨zB,rfl⟩
      ·(refine yR (vH cg cv) ?_)
       exact zJ
     ·rw[zZ7 (λh=>hi2 h.2)]at hmG;subst hmG
      rcases hve with⟨hv1,rfl⟩|⟨hv1,rfl⟩
      ·(refine zV cv ?_)
       exact⟨zB,rfl⟩
      ·(refine zV cv ?_)
       exact zJ
    ·rw[zZ7 (λh=>hi1 h.1)]at hmG;subst hmG
     rcases hve with⟨hv1,rfl⟩|⟨hv1,rfl⟩
     ·(refine zV cv ?_)
      exact⟨zB,rfl⟩
     ·(refine zV cv ?_)
      exact zJ
   ·rintro st' ⟨hik,rfl⟩;exfalso;omega
 ·have hgl:=hpg ar.length;by_cases hz:((pg ar.length).map yA++da.map yA).length<=200
  case neg=>
   refine⟨[],6,.inr Z,?_,λf hf=>⟨λh=>absurd h xG,λh=>?_⟩⟩
   case refine_2=>
    exfalso;apply hz;have e1:=h.1;have e2:=h.2.1;have e3:=h.2.2.1;have e4:f<=3:=by omega
    rw[yAd,zZ9,zZ9,e2];simp only[yBr];omega
   clear hq hg0;have hinv:∀i,i<ar.length->veF (ar.getD i default)=0:=λi hi=>by rw[zDu,hall i hi,zZ8 Z]
   clear hall
   rcases h2 with h2|h2
   all_goals
    refine eM call134 λF hF=>?_
    refine yR (gK c1 c2 c3) ?_
   all_goals
    refine qB 1001 Z ?_;refine xR (ar.length+1) [1001,1,4] [1,4] [1,4,6,64] [7,65,1,4,6,64] Z (λi T U zs=>(i<=ar.length)/\zs=⟨(7,.ref 1001 0 ((py i).map yA).length)::(65,iA i)::T,(1001,.arr 1 ((py i).map yA) true)::U⟩) ?_;(conv=>whnf);refine⟨?_,?_,?_⟩
    ·refine⟨yAp _,?_⟩;rw[hp0];rfl
    ·rintro i st' hi ⟨hik,rfl⟩;have hbl:=hpl i;have hb2:=hpg i;have hg:=hpG i;have hlp:=zA yA (py i);have hlP:=zA yA (pg i)
     have hmG:(pg i).map yA=if(i:Int)=sf/\0<sg then(py i).map yA++(TH gr).map yA else(py i).map yA:=by
      rw[hg];split
      ·rw[yAi]
      ·rfl
     by_cases hie:i=ar.length
     ·subst hie;clear hpS hg hpl hpg hpG hp0 c1 c2 c3 hinv;generalize (py ar.length).map yA=A at *;generalize (pg ar.length).map yA=B at *;generalize TH gr=W at *;by_cases hi1:(ar.length:Int)=sf
      ·by_cases hi2:0<sg
       ·rw[zZ8 ⟨hi1,hi2⟩]at hmG;subst hmG;refine zV cg ?_;exact zJ
       ·rw[zZ7 (λh=>hi2 h.2)]at hmG;subst hmG;refine WW ?_;exact zJ
      ·rw[zZ7 (λh=>hi1 h.1)]at hmG;subst hmG;refine WW ?_;exact zJ
     have cv:=HX (ar.getD i default);rw[hinv i zB]at cv;have hy:=zM iA ar i zB;have hS:=hpS i;have hlv:=zA yA (TH (ar.getD i default));have hvv:=cV (ar.getD i default);have hmS:(py (i+1)).map yA=(pg i).map yA++(TH (ar.getD i default)).map yA:=by rw[hS,yAi]
     rw[hmS];clear hS hg hpl hpg hpG hpS hp0 hmS c1 c2 c3 hinv hz hgl;generalize (pg ar.length).map yA=E at *;generalize (py i).map yA=A at *;generalize (pg i).map yA=B at *;generalize TH (ar.getD i default)=V at *;generalize ar.getD i default=a at *;generalize TH gr=W at *;by_cases hi1:(i:Int)=sf
     ·by_cases hi2:0<sg
      ·rw[zZ8 ⟨hi1,hi2⟩]at hmG;subst hmG;refine yR (vH cg cv) ?_;exact⟨zB,rfl⟩
      ·rw[zZ7 (λh=>hi2 h.2)]at hmG;subst hmG;refine zV cv ?_;exact⟨zB,rfl⟩
     ·rw[zZ7 (λh=>hi1 h.1)]at hmG;subst hmG;refine zV cv ?_;exact⟨zB,rfl⟩
    ·rintro st' ⟨hik,rfl⟩;exfalso;omega
  refine⟨((pg ar.length).map yA++da.map yA).take ((pg ar.length).map yA++da.map yA).length,0,.inl Z,?_,λf hf=>⟨λ_=>?_,λ_=>rfl⟩⟩
  case refine_2=>
   obtain⟨q1,q2,q3,q4,_⟩:=hq f hf;have h5:=yD5 (hg0 q3).2.symm;refine⟨zB,yBa zB,zB,λi hi=>hall i zB⟩
  clear hq hg0;have hinv:∀i,i<ar.length->veF (ar.getD i default)=0:=λi hi=>by rw[zDu,hall i hi,zZ8 Z]
  clear hall
  rcases h2 with h2|h2
  all_goals
   refine eM call134 λF hF=>?_
   refine yR (gK c1 c2 c3) ?_
  all_goals
   refine qB 1001 Z ?_;refine xR (ar.length+1) [1001,1,4] [1,4] [1,4,6,64] [7,65,1,4,6,64] Z (λi T U zs=>(i<=ar.length)/\zs=⟨(7,.ref 1001 0 ((py i).map yA).length)::(65,iA i)::T,(1001,.arr 1 ((py i).map yA) true)::U⟩) ?_;(conv=>whnf);refine⟨?_,?_,?_⟩
   ·refine⟨yAp _,?_⟩;rw[hp0];rfl
   ·rintro i st' hi ⟨hik,rfl⟩;have hbl:=hpl i;have hb2:=hpg i;have hg:=hpG i;have hlp:=zA yA (py i);have hlP:=zA yA (pg i)
    have hmG:(pg i).map yA=if(i:Int)=sf/\0<sg then(py i).map yA++(TH gr).map yA else(py i).map yA:=by
     rw[hg];split
     ·rw[yAi]
     ·rfl
    by_cases hie:i=ar.length
    ·subst hie;clear hpS hg hpl hpg hpG hp0 c1 c2 c3 hinv;generalize (py ar.length).map yA=A at *;generalize (pg ar.length).map yA=B at *;generalize TH gr=W at *;by_cases hi1:(ar.length:Int)=sf
     ·by_cases hi2:0<sg
      ·rw[zZ8 ⟨hi1,hi2⟩]at hmG;subst hmG;refine zV cg ?_;exact zJ
      ·rw[zZ7 (λh=>hi2 h.2)]at hmG;subst hmG;refine WW ?_;exact zJ
     ·rw[zZ7 (λh=>hi1 h.1)]at hmG;subst hmG;refine WW ?_;exact zJ
    have cv:=HX (ar.getD i default);rw[hinv i zB]at cv;have hy:=zM iA ar i zB;have hS:=hpS i;have hlv:=zA yA (TH (ar.getD i default));have hvv:=cV (ar.getD i default);have hmS:(py (i+1)).map yA=(pg i).map yA++(TH (ar.getD i default)).map yA:=by rw[hS,yAi]
    rw[hmS];clear hS hg hpl hpg hpG hpS hp0 hmS c1 c2 c3 hinv hz hgl;generalize (pg ar.length).map yA=E at *;generalize (py i).map yA=A at *;generalize (pg i).map yA=B at *;generalize TH (ar.getD i default)=V at *;generalize ar.getD i default=a at *;generalize TH gr=W at *;by_cases hi1:(i:Int)=sf
    ·by_cases hi2:0<sg
     ·rw[zZ8 ⟨hi1,hi2⟩]at hmG;subst hmG;refine yR (vH cg cv) ?_;exact⟨zB,rfl⟩
     ·rw[zZ7 (λh=>hi2 h.2)]at hmG;subst hmG;refine zV cv ?_;exact⟨zB,rfl⟩
    ·rw[zZ7 (λh=>hi1 h.1)]at hmG;subst hmG;refine zV cv ?_;exact⟨zB,rfl⟩
   ·rintro st' ⟨hik,rfl⟩;exfalso;omega
def kdP (k:Int) (f:Nat):Prop:=(k=2/\f=3)∨(k=3/\f=1)∨(k=4/\f=2)∨(k=5/\f=1)
def mvP (m:Ms) (f:Nat):Prop:=m.tok.length=10/\m.data=[]/\m.args.length=f/\∀i,i<f->nmB (m.args.getD i default)=true
def zNa (m:Ms) (hm:MsB m):∃b:Bool,zN 195 [yB m] [] (bA b) []/\∀f,kdP m.kind f->(b=true↔mvP m f):=by
 obtain⟨xs,e,he,c,h⟩:=zM9 m hm
 rcases he with rfl|rfl
 ·refine⟨true,?_,λf hf=>⟨λ_=>(h f hf).1 Z,λ_=>rfl⟩⟩;clear h;refine eM call195 λF hF=>?_
  refine zV c ?_;exact zJ
 ·refine⟨false,?_,λf hf=>⟨λh1=>absurd h1 yAs,λh1=>absurd ((h f hf).2 h1) xG⟩⟩;clear h;refine eM call195 λF hF=>?_
  refine zV c ?_;exact zJ
def BG:Nat->Int->List Int
 |0,n=>[n]
 |z+1,n=>if 128<=n then(n % 128+128)::BG z (n/128)else [n]
theorem QB:∀z n,(BG z n).length<=z+1
 |0,n=>yAb _
 |z+1,n=>by
  unfold BG;split
  ·have:=QB z (n/128);simp only[yAl];omega
  ·simp
def zRx (z:Nat) (n:Int) (h:n<128):BG z n=[n]:=by
 cases z with
 |zero=>rfl
 |succ z=>unfold BG;rw[zZ7 zB]
def szN:Nat->Int->Int
 |0,_=>0
 |z+1,n=>if 128<=n then 1+szN z (n/128)else 0
theorem HZ:∀z n,0<=szN z n/\szN z n<=z
 |0,n=>⟨yB6 _,yB6 _⟩
 |z+1,n=>by
  unfold szN;split
  ·have:=HZ z (n/128);omega
  ·omega
def zRy (z:Nat) (n:Int) (h:n<128):szN z n=0:=by
 cases z with
 |zero=>rfl
 |succ z=>unfold szN;rw[zZ7 zB]
def zNb (x:Int) (h0:0<=x) (h1:x<=4294967295):x.tdiv 128=x/128/\XN .i64 (x.tdiv 128):=by
 have e:=yB3 (a:=x) (b:=128) h0;refine⟨e,?_⟩;rw[e];exact⟨by show(-9223372036854775808:Int)<=_;omega,by show _<=(9223372036854775807:Int);omega⟩
def zRz (n:Int) (h1:0<=n) (h2:n<=4294967295):∃k:Int,1<=k/\zN 181 [iA n] [] (iA k) []:=by
 refine⟨1+szN 5 n,by have:=HZ 5 n;omega,?_⟩;have hs5:=HZ 5 n;refine eM call181 λF hF=>?_
 refine WW ?_;refine kX (5) [] [] [] [0,3] Z (λzn T U zs=>∃(x:Int) (k:Int),(0<=x/\x<=4294967295/\x<P7 zn*128/\k+szN zn x=1+szN 5 n/\1<=k)/\zs=⟨(0,iA x)::(3,iA k)::T,U⟩) ?_;(conv=>whnf);refine⟨?_,?_⟩
 ·exact⟨n,1,⟨h1,h2,by show n<34359738368*128;omega,rfl,yB6 _⟩,rfl⟩
 ·rintro zn st ⟨x,k,⟨b1,b1',b2,b3,b4⟩,rfl⟩;by_cases hx:128<=x
  ·have hz:zn≠0:=λe=>by
    subst e;have:P7 0=1:=rfl;omega
   obtain⟨z,rfl⟩:∃z,zn=z+1:=⟨zn-1,zB⟩;obtain⟨e,hq⟩:=zNb x b1 b1';have hP:P7 (z+1)=128*P7 z:=rfl
   have e2:szN (z+1) x=1+szN z (x/128):=by
    show(if 128<=x then _ else _)=_
    rw[zZ8 hx]
   rw[e2,<-e]at b3;have hx2:0<=x.tdiv 128/\x.tdiv 128<=4294967295/\x.tdiv 128<P7 z*128:=by rw[e];rw[hP]at b2;omega
   have hk6:=HZ z (x.tdiv 128);clear e2 hP e b2;refine WW ?_;exact⟨z,zB,x.tdiv 128,k+1,⟨hx2.1,hx2.2.1,hx2.2.2,zB,zB⟩,rfl⟩
  ·rw[zRy zn x zB,Int.add_zero]at b3;rw[<-b3];refine WW ?_;exact zJ
def zWx (n:Int) (h1:0<=n) (h2:n<=4294967295):zN 136 [iA n] [] (.tup [zD yA (BG 5 n),iA 0]) []:=by
 obtain⟨k,hk,c⟩:=zRz n h1 h2;refine eM call136 λF hF=>?_
 refine zV c ?_;refine yZ 4 1001 1 Z Z Z ?_;refine kX (5) [1001] [] [] [0,4] Z (λzn T U zs=>∃(acc:List Int) (x:Int),(0<=x/\x<=4294967295/\x<P7 zn*128/\acc++BG zn x=BG 5 n/\acc.length<=100)/\zs=⟨(0,iA x)::(4,.ref 1001 0 (acc.map yA).length)::T,(1001,.arr 1 (acc.map yA) true)::U⟩) ?_;(conv=>whnf);refine⟨?_,?_⟩
 ·exact⟨[],n,⟨h1,h2,by show n<34359738368*128;omega,rfl,by simp⟩,rfl⟩
 ·rintro zn st ⟨acc,x,⟨b1,b1',b2,b3,b4⟩,rfl⟩;have hla:=zA yA acc;by_cases hx:128<=x
  ·have hz:zn≠0:=λe=>by
    subst e;have:P7 0=1:=rfl;omega
   obtain⟨z,rfl⟩:∃z,zn=z+1:=⟨zn-1,zB⟩;obtain⟨e,hq⟩:=zNb x b1 b1';have e9:=yBw (a:=x) (b:=128) b1;have hP:P7 (z+1)=128*P7 z:=rfl
   have e2:BG (z+1) x=(x % 128+128)::BG z (x/128):=by
    show(if 128<=x then _ else _)=_
    rw[zZ8 hx]
   rw[e2]at b3;have hm:(acc++[x.tmod 128+128]).map yA=acc.map yA++[yA (x.tmod 128+128)]:=by simp
   have hb5:acc++[x.tmod 128+128]++BG z (x.tdiv 128)=BG 5 n:=by rw[e,e9,yA7];exact b3
   have hr9:0<=x.tmod 128/\x.tmod 128<=127:=by rw[e9];omega
   have hx2:0<=x.tdiv 128/\x.tdiv 128<=4294967295/\x.tdiv 128<P7 z*128:=by rw[e];rw[hP]at b2;omega
   have hlc:acc.length+1<=100:=by
    have h6:=yA6 List.length b3;have h7:=QB 5 n;simp only[yAd,yAl]at h6;omega
   clear e2 b3 hP e e9;refine WW ?_;exact⟨z,zB,acc++[x.tmod 128+128],x.tdiv 128,⟨hx2.1,hx2.2.1,hx2.2.2,hb5,by simpa using hlc⟩,by rw[hm];rfl⟩
  ·rw[zRx zn x zB]at b3;rw[<-b3];have hm:zD yA (acc++[x])= .sl false ((acc.map yA++[yA (x)]).take (acc.map yA++[yA (x)]).length):=by rw[yAf];unfold zD;rw[yAi];rfl
   rw[hm];refine WW ?_;exact zJ
def qyN (tok args:List Int):Nat->List Int
 |0=>tok
 |i+1=>qyN tok args i++BG 5 (args.getD i default)
theorem zDv (tok args:List Int):∀i,(qyN tok args i).length<=tok.length+6*i
 |0=>by show tok.length<=_;omega
 |i+1=>by
  have:=zDv tok args i;have h2:=QB 5 (args.getD i default);unfold qyN;simp only[yAd];omega
def r5A (f:Int):AV:= .agg [iA f,iA 0,iA 0,iA 0,iA 0]
def zNc (k:Int) (f:Nat) (hf:kdP k f):zN 106 [iA k] [] (r5A f) []:=by
 rcases hf with⟨rfl,rfl⟩|⟨rfl,rfl⟩|⟨rfl,rfl⟩|⟨rfl,rfl⟩
 all_goals
  refine eM call106 λF hF=>?_
  refine WW ?_;exact zJ
def zR0 (k:Int) (h1:1<=k) (h2:k<=12):zN 107 [iA k] [] (bA true) []:=by
 refine eM call107 λF hF=>?_
 refine WW ?_;exact zJ
def zR1 (m:Ms) (f:Nat) (hf:kdP m.kind f) (h:mvP m f):∃xs:List AV,xs.length<=200/\zN 99 [yB m] [] (.sl false xs) []:=by
 obtain⟨h1,h2,h3,h4⟩:=h;have c1:=zNc m.kind f hf;have hf3:f<=3/\1<=f:=by unfold kdP at hf;omega
 obtain⟨mk,tk,ar,da⟩:=m;dsimp only at *;subst h2;have hQ:=zDv tk ar;refine⟨((qyN tk ar f).map yA++[]).take ((qyN tk ar f).map yA++[]).length,by have:=hQ f;simp;omega,?_⟩;have hlt:=zA yA tk;have hla:=zA iA ar;have hq0:qyN tk ar 0=tk:=rfl;have hqS:∀i:Nat,qyN tk ar (i+1)=qyN tk ar i++BG 5 (ar.getD i default):=λ_=>rfl
 generalize qyN tk ar=qy at *;rw[show yB ⟨mk,tk,ar,[]⟩= .agg [iA mk,zD yA tk,zD iA ar,zD yA []]from Z];rw[show r5A f= .agg [iA f,iA 0,iA 0,iA 0,iA 0]from Z]at c1;clear hf;refine eM call99 λF hF=>?_
 (have zc1:=c1;(repeat' (first|refine uL ?_|((first|apply xM|apply wA)<;>intro hc)|(refine zE ?_;first|(refine xC ?_;refine LU 1001 tok Z Z Z Z Z Z (xO _ _ (λ_=>rfl)) Z Z Z zB Z Z Z ?_))|fail))<;>clear zc1)
 refine qB 1001 Z ?_;refine xR (ar.length) [1001,1,3] [1,3] [1,3,16,17] [4,18,1,3,16,17] Z (λi T U zs=>(i<=ar.length)/\zs=⟨(4,.ref 1001 0 ((qy i).map yA).length)::(18,iA i)::T,(1001,.arr 1 ((qy i).map yA) true)::U⟩) ?_;(conv=>whnf);refine⟨?_,?_,?_⟩
 ·refine⟨yAp _,?_⟩;rw[hq0];rfl
 ·rintro i st' hi ⟨hik,rfl⟩;have hn:=h4 i zB;unfold nmB at hn;rw[yAc]at hn;have cv:=zWx (ar.getD i default) hn.1 hn.2;have hy:=zM iA ar i hi;have hbl:=hQ i;have hlp:=zA yA (qy i);have hlv:=zA yA (BG 5 (ar.getD i default));have hvv:=QB 5 (ar.getD i default);have hmS:(qy (i+1)).map yA=(qy i).map yA++(BG 5 (ar.getD i default)).map yA:=by rw[hqS,yAi]
  rw[hmS];clear hqS hQ hq0 hmS c1 hn h4;generalize (qy i).map yA=A at *;generalize BG 5 (ar.getD i default)=V at *;generalize ar.getD i default=a at *;refine zV cv ?_;exact⟨zB,rfl⟩
 ·rintro st' ⟨hik,rfl⟩;subst h3;have hbl:=hQ ar.length;have hlp:=zA yA (qy ar.length);clear hqS hQ hq0 h4 c1;generalize (qy ar.length).map yA=A at *;have hl0:(([]:List Int).map yA).length=0:=rfl;refine WW ?_;exact zJ
def zFx (m:Ms) (hm:MsB m) (f:Nat) (hf:kdP m.kind f):∃b:Bool,zN 98 [yB m] [] (bA b) []/\(b=true↔mvP m f):=by
 have c1:=zNc m.kind f hf;have hk:2<=m.kind/\m.kind<=5:=by unfold kdP at hf;omega
 have c2:=zR0 m.kind zB zB;have cp:=zR1 m f hf;have b1:=hm.t;have b2:=hm.a;have b3:=hm.d;have hlt:=zA yA m.tok;have hla:=zA iA m.args;have hld:=zA yA m.data;have hf3:f<=3/\1<=f:=by unfold kdP at hf;omega
 rw[show r5A f= .agg [iA f,iA 0,iA 0,iA 0,iA 0]from Z]at c1;by_cases h1:m.tok.length=10
 case neg=>
  refine⟨false,?_,λh=>absurd h yAs,λh=>absurd h.1 h1⟩;clear cp;refine eM call98 λF hF=>?_
  refine yR (vH c1 c2) ?_;exact zJ
 by_cases h2:m.args.length=f
 case neg=>
  refine⟨false,?_,λh=>absurd h yAs,λh=>absurd h.2.2.1 h2⟩;clear cp;refine eM call98 λF hF=>?_
  refine yR (vH c1 c2) ?_;exact zJ
 by_cases h3:m.data.length=0
 case neg=>
  refine⟨false,?_,λh=>absurd h yAs,λh=>absurd (by rw[h.2.1];rfl) h3⟩;clear cp;refine eM call98 λF hF=>?_
  refine yR (vH c1 c2) ?_;exact zJ
 have h3:=yBa h3
 rcases zM8 m.args m.args.length (yAb _)with⟨k,hk1,hk2,hk3⟩|hall
 ·refine⟨false,?_,λh=>absurd h yAs,λh=>?_⟩
  case refine_2=>
   have:=h.2.2.2 k zB;rw[hk2]at this;cases this
  clear cp;refine eM call98 λF hF=>?_
  refine yR (vH c1 c2) ?_;refine xR (m.args.length) [1] [1] [1,97,98] [99,1,97,98] Z (λi T U zs=>(i<=k)/\zs=⟨(99,iA i)::T,U⟩) ?_;(conv=>whnf);refine⟨?_,?_,?_⟩
  ·exact⟨yAp _,rfl⟩
  ·rintro i st' hi ⟨hik,rfl⟩;have hy:=zM iA m.args i hi;by_cases e:i=k
   ·subst e;unfold nmB at hk2;rw[yAr]at hk2;generalize m.args.getD i default=a at *;by_cases g1:0<=a
    ·have g2:¬a<=4294967295:=λh=>hk2 ⟨g1,h⟩
     clear hk2;refine WW ?_;exact zJ
    ·clear hk2;refine WW ?_;exact zJ
   ·have hn:=hk3 i zB;unfold nmB at hn;rw[yAc]at hn;obtain⟨hn1,hn2⟩:=hn;clear hk2 hk3;generalize m.args.getD i default=a at *;refine WW ?_;exact⟨zB,rfl⟩
  ·rintro st' ⟨hik,rfl⟩;exfalso;omega
 ·have hok:mvP m f:=⟨h1,h3,h2,λi hi=>hall i zB⟩;obtain⟨xs,hx,c3⟩:=cp hok;refine⟨true,?_,λ_=>hok,λ_=>rfl⟩;clear hok cp;rw[show yB m= .agg [iA m.kind,zD yA m.tok,zD iA m.args,zD yA m.data]from Z]at *; refine eM call98 λF hF=>?_
  refine yR (vH c1 c2) ?_;refine zO (m.args.length) [1] [1] [1,97,98] [99,1,97,98] Z (λi T U=>⟨(99,iA i)::T,U⟩) ?_;(conv=>whnf);refine⟨by rfl,?_,?_⟩
  ·intro i hi;have hy:=zM iA m.args i hi;have hn:=hall i hi;unfold nmB at hn;rw[yAc]at hn;obtain⟨hn1,hn2⟩:=hn;clear hall;generalize m.args.getD i default=a at *;refine WW ?_;rfl
  ·(refine zV c3 ?_)
   exact zJ
def BH (l:List Vh) (id:Int):∃k,k<=l.length/\(∀i,i<k->(l.getD i default).id<id)/\(k<l.length->¬(l.getD k default).id<id):=by
 induction l with
 |nil=>exact⟨0,yAb _,λi h=>absurd h (yCj _),λh=>absurd h zU⟩
 | cons x l ih=>
  obtain⟨k,h1,h2,h3⟩:=ih;by_cases hx:x.id<id
  ·refine⟨k+1,by simpa using h1,λi hi=>?_,λhk=>?_⟩
   ·cases i with
    |zero=>exact hx
    |succ i=>exact h2 i zB
   ·exact h3 (by simpa using hk)
  ·exact⟨0,yAp _,λi h=>absurd h (yCj _),λ_=>hx⟩
def zS6 {l:List Vh}:GP l=true↔l.length<=8/\∀i,i<l.length->(0<=(l.getD i default).id/\(l.getD i default).id<=4294967295/\0<=(l.getD i default).cls/\(l.getD i default).cls<=3)/\(0<i->(l.getD (i-1) default).id<(l.getD i default).id):=by
 unfold GP;simp only[yAk,yAc,yAm,yAt];constructor
 ·rintro⟨h1,h2⟩;refine⟨zB,λi hi=>?_⟩;have:=h1 i hi;unfold TF at this;rw[yAc]at this;exact⟨⟨this.1,this.2.1,this.2.2.1,this.2.2.2.1⟩,this.2.2.2.2⟩
 ·rintro⟨h1,h2⟩;refine⟨λi hi=>?_,zB⟩;unfold TF;rw[yAc];have:=h2 i hi;exact⟨this.1.1,this.1.2.1,this.1.2.2.1,this.1.2.2.2,this.2⟩
def avL (a:Ag):Bool:=a.lim.all λn=>jD n 0 8
def avF (a:Ag):Bool:=decide ((a.sec.length:Int)=8/\(a.lim.length:Int)=4)&&(avL a&&(jD a.rights 0 63&&(jD a.cls 0 3&&(jD a.req 0 4&&(jD a.ses 1 2&&(jD a.burst 0 1000&&jD a.rate 0 a.burst))))))
def zY7 {a:Ag} (h:∀s:Nat,s<a.lim.length->jD (a.lim.getD s default) 0 8=true):avL a=true:=by
 unfold avL;rw[yAm];intro x hx;obtain⟨i,hi,rfl⟩:=yCh hx;have:=h i hi;simpa [List.getD,hi]using this
def zY8 {a:Ag} {i:Nat} (hi:i<a.lim.length) (h:jD (a.lim.getD i default) 0 8=false):avL a=false:=by
 unfold avL;rw[yC1];exact⟨a.lim.getD i default,by simp[List.getD,hi],by rw[h];decide⟩
def zFy (a:Ag):zN 144 [wK a] [] (bA (avF a)) []:=by
 have hs:=zA yA a.sec;have hl:=zA iA a.lim;have c1:=vR a.rights 0 63;have c2:=vR a.cls 0 3;have c3:=vR a.req 0 4;have c4:=vR a.ses 1 2;have c5:=vR a.burst 0 1000;have c6:=vR a.rate 0 a.burst;by_cases h1:(a.sec.length:Int)=8/\(a.lim.length:Int)=4
 case neg=>
  have e:avF a=false:=by unfold avF;rw[yAh h1];rfl
  rw[e];by_cases g1:(a.sec.length:Int)=8
  ·(refine eM call144 λF hF=>?_)
   refine WW ?_;exact zJ
  ·(refine eM call144 λF hF=>?_)
   refine WW ?_;exact zJ
 obtain⟨h1,h2⟩:=h1
 have e:avF a=(avL a&&(jD a.rights 0 63&&(jD a.cls 0 3&&(jD a.req 0 4&&(jD a.ses 1 2&&(jD a.burst 0 1000&&jD a.rate 0 a.burst)))))):=by
  unfold avF;rw[yAe ⟨h1,h2⟩,yAv]
 rw[e];refine eM call144 λF hF=>?_
 refine WW ?_;refine xR (a.lim.length) [1] [1] [1,16,17] [18,1,16,17] Z (λi T U zs=>(∀s:Nat,s<i->jD (a.lim.getD s default) 0 8=true)/\zs=⟨(18,iA i)::T,U⟩) ?_;(conv=>whnf);refine⟨?_,?_,?_⟩
 ·exact⟨λs hs=>absurd hs (yCj _),rfl⟩
 ·rintro i st hi ⟨hp,rfl⟩;have hy:=zM iA a.lim i hi;have c:=vR (a.lim.getD i default) 0 8
  cases hq:jD (a.lim.getD i default) 0 8 with
  | true=>
   rw[hq]at c
   have hp2:∀s:Nat,s<i+1->jD (a.lim.getD s default) 0 8=true:=λs hs=>by
    by_cases hsi:s=i
    ·subst hsi;assumption
    ·exact hp s zB
   clear hq hp;generalize hx:a.lim.getD i default=x at *;clear hx;refine zV c ?_;exact⟨hp2,rfl⟩
  |false=>
   rw[hq]at c;rw[zY8 hi hq,yBy];generalize a.lim.getD i default=x at *;refine zV c ?_;exact zJ
 ·rintro st ⟨hp,rfl⟩;rw[zY7 hp,yAv];clear hp;generalize jD a.rights 0 63=q1 at *;generalize jD a.cls 0 3=q2 at *;generalize jD a.req 0 4=q3 at *;generalize jD a.ses 1 2=q4 at *;generalize jD a.burst 0 1000=q5 at *;generalize jD a.rate 0 a.burst=q6 at *;cases q1
  ·(refine zV c1 ?_)
   exact zJ
  cases q2
  ·(refine yR (vH c1 c2) ?_)
   exact zJ
  cases q3
  ·(refine yR (gK c1 c2 c3) ?_)
   exact zJ
  cases q4
  ·(refine yR (ZK c1 c2 c3 c4) ?_)
   exact zJ
  cases q5
  ·(refine yR (zt5 c1 c2 c3 c4 c5) ?_)
   exact zJ
  ·(refine yR (zt6 c1 c2 c3 c4 c5 c6) ?_)
   exact zJ
def VS (l:List Vh) (hn:l.length<=1000000):zN 263 [zD vZ l] [] (bA (GP l)) []:=by
 have hl:=zA vZ l;by_cases h8:(l.length:Int)<=8
 case neg=>
  have e:GP l=false:=by unfold GP;rw[yAh h8,yDp]
  rw[e];refine eM call263 λF hF=>?_
  refine WW ?_;exact zJ
 refine eM call263 λF hF=>?_
 refine WW ?_;refine xR (l.length) [] [] [0,8,9] [10,0,8,9] Z (λi T U zs=>(∀s:Nat,s<i->TF l s=true)/\zs=⟨(10,iA i)::T,U⟩) ?_;(conv=>whnf);refine⟨?_,?_,?_⟩
 ·exact⟨λs hs=>absurd hs (yCj _),rfl⟩
 ·rintro i st hi ⟨hp,rfl⟩
  have next:TF l i=true->∀s:Nat,s<i+1->TF l s=true:=λh s hs=>by
   by_cases hsi:s=i
   ·subst hsi;exact h
   ·exact hp s zB
  have stop:=λh=>zWi (l:=l) hi h
  have hy:=zM vZ l i hi;have htok:TF l i=_:=rfl
  conv at htok=>rhs;unfold TF
  by_cases hi0:0<i
  ·have hyp:=yI vZ l ((i:Int)-1) zB zB;rw[show((i:Int)-1).toNat=i-1 by omega]at hyp;have hyq:(l.map vZ)[((i:Int)-1).toNat]? =some (vZ (l.getD (i-1) default)):=by rw[show((i:Int)-1).toNat=i-1 by omega];exact hyp
   clear hyp;generalize l.getD i default=t at *;generalize l.getD (i-1) default=p at *;generalize TF l i=tk at *;by_cases h1:0<=t.id/\t.id<=4294967295/\0<=t.cls/\t.cls<=3/\p.id<t.id
   ·obtain⟨h1,h2,h3,h4,h5⟩:=h1;rw[yAe ⟨h1,h2,h3,h4,λ_=>h5⟩]at htok;refine WW ?_;exact⟨next htok,rfl⟩
   ·rw[yAh (λh=>h1 ⟨h.1,h.2.1,h.2.2.1,h.2.2.2.1,h.2.2.2.2 hi0⟩)]at htok;rw[stop htok]
    by_cases g1:0<=t.id<;>by_cases g2:t.id<=4294967295<;>by_cases g3:0<=t.cls<;>by_cases g4:t.cls<=3<;>by_cases g5:p.id<t.id<;>first|(exfalso;exact h1 ⟨g1,g2,g3,g4,g5⟩)|(exfalso;omega;done)|(clear h1;((refine WW ?_));exact zJ)
  ·obtain rfl:i=0:=by omega
   generalize l.getD 0 default=t at *;generalize TF l 0=tk at *;by_cases h1:0<=t.id/\t.id<=4294967295/\0<=t.cls/\t.cls<=3
   ·obtain⟨h1,h2,h3,h4⟩:=h1;rw[yAe ⟨h1,h2,h3,h4,λh=>absurd h hi0⟩]at htok;refine WW ?_;exact⟨next htok,rfl⟩
   ·rw[yAh (λh=>h1 ⟨h.1,h.2.1,h.2.2.1,h.2.2.2.1⟩)]at htok;rw[stop htok]
    by_cases g1:0<=t.id<;>by_cases g2:t.id<=4294967295<;>by_cases g3:0<=t.cls<;>by_cases g4:t.cls<=3<;>first|(exfalso;exact h1 ⟨g1,g2,g3,g4⟩)|(exfalso;omega;done)|(clear h1;((refine WW ?_));exact zJ)
 ·rintro st ⟨hp,rfl⟩;have e:((List.range l.length).all λi=>TF l i)=true:=yAm.2 λi hi=>hp i (yAt.1 hi)
  unfold GP;rw[e,yAv];rw[yAe h8];refine WW ?_;exact zJ
def gvF (r:Rg):Bool:=decide (0<=r.num/\r.num<4)&&(avF r.ag&&(NP r.tk&&(GP r.vh&&(bvF r.bk&&decide (r.bk.rate=r.ag.rate/\r.bk.burst=r.ag.burst)))))
def aM (r:Rg) (hv:r.vh.length<=1000000):zN 235 [uX r] [] (bA (gvF r)) []:=by
 have c1:=zFy r.ag;have c2:=WE r.tk;have c3:=VS r.vh hv;have c4:=zLf r.bk;unfold gvF;generalize avF r.ag=q1 at *;generalize NP r.tk=q2 at *;generalize GP r.vh=q3 at *;generalize bvF r.bk=q4 at *;by_cases h1:0<=r.num
 case neg=>
  rw[yAh (λh=>h1 h.1)];refine eM call235 λF hF=>?_
  refine WW ?_;exact zJ
 by_cases h2:r.num<4
 case neg=>
  rw[yAh (λh=>h2 h.2)];refine eM call235 λF hF=>?_
  refine WW ?_;exact zJ
 rw[yAe ⟨h1,h2⟩]
 cases q1 with
 |false=>
  refine eM call235 λF hF=>?_
  refine zV c1 ?_;exact zJ
 |true=>
 cases q2 with
 |false=>
  refine eM call235 λF hF=>?_
  refine yR (vH c1 c2) ?_;exact zJ
 |true=>
 cases q3 with
 |false=>
  refine eM call235 λF hF=>?_
  refine yR (gK c1 c2 c3) ?_;exact zJ
 |true=>
 cases q4 with
 |false=>
  refine eM call235 λF hF=>?_
  refine yR (ZK c1 c2 c3 c4) ?_;exact zJ
 |true=>
 by_cases h3:r.bk.rate=r.ag.rate
 case neg=>
  rw[yAh (λh=>h3 h.1)];refine eM call235 λF hF=>?_
  refine yR (ZK c1 c2 c3 c4) ?_;exact zJ
 by_cases h4:r.bk.burst=r.ag.burst
 ·rw[yAe ⟨h3,h4⟩];refine eM call235 λF hF=>?_
  refine yR (ZK c1 c2 c3 c4) ?_
  all_goals (first|exact zJ|exact zFB)
 ·rw[yAh (λh=>h4 h.2)];refine eM call235 λF hF=>?_
  refine yR (ZK c1 c2 c3 c4) ?_
  all_goals (first|exact zJ|exact zFB)
def dY (r:Rg) (hv:r.vh.length<=1000000):yP [uX r] [] (bA (gvF r)) []:=yD
def OU (l:List Vh) (id:Int) (hn:l.length<=1000000) (k:Nat) (k1:k<=l.length) (k2:∀i,i<k->(l.getD i default).id<id) (k3:k<l.length->¬(l.getD k default).id<id):zN 269 [zD vZ l,iA id] [] (iA k) []:=by
 have hll:=zA vZ l;refine eM call269 λF hF=>?_
 refine WW ?_;refine xR (l.length+1) [] [] [0,1] [5,0,1] Z (λi T U zs=>(i<=k)/\zs=⟨(5,iA i)::T,U⟩) ?_;(conv=>whnf);refine⟨?_,?_,?_⟩
 ·exact⟨yAp _,rfl⟩
 ·rintro i st hi ⟨hik,rfl⟩;by_cases hlt:i<k
  ·have hy:=zM vZ l i zB;have hh:=k2 i hlt;generalize l.getD i default=x at *;refine WW ?_;exact⟨zB,rfl⟩
  ·obtain rfl:i=k:=by omega
   by_cases hkl:i<l.length
   ·have hy:=zM vZ l i hkl;have hh:=k3 hkl;generalize l.getD i default=x at *;refine WW ?_;exact zJ
   ·(refine WW ?_)
    exact zJ
 ·rintro st ⟨hik,rfl⟩;exfalso;omega
def BI (l:List Vh) (c:Int) (hn:l.length<=1000000):zN 297 [zD vZ l,iA c] [] (iA (kO l c)) []:=by
 have hl:=zA vZ l;refine eM call297 λF hF=>?_
 refine WW ?_;refine yL (l) [] [] [1,8,9] [5,10,1,8,9] Z (λi pre T U=>⟨(5,iA (kO pre c))::(10,iA i)::T,U⟩) ?_;(conv=>whnf);refine⟨by rfl,?_,?_⟩
 ·intro i pre x post hx hi;have hy:=xI vZ hx hi;have hlt:=yN hx hi;have hle:kO pre c<=i:=by rw[<-hi];exact yCl _ _
  have e:kO (pre++[x]) c=kO pre c+(if x.cls=c then 1 else 0):=by
   unfold kO;rw[yDc,yAd];by_cases h:x.cls=c
   ·simp[h]
   ·simp[h]
  clear hx;by_cases h:x.cls=c
  ·rw[zZ8 h]at e;rw[e];generalize kO pre c=m at *;refine WW ?_;rfl
  ·rw[zZ7 h,yDd]at e;rw[e];generalize kO pre c=m at *;refine WW ?_;rfl
 ·(refine WW ?_)
  exact zJ
def BJ (a:Ag) (c:Int) (h0:0<=c) (h1:c<a.lim.length):zN 298 [wK a,iA c] [] (iA (a.lim.getD c.toNat default)) []:=by
 have hla:=zA iA a.lim;have hy:=yI iA a.lim c h0 h1;refine eM call298 λF hF=>?_
 refine WW ?_;exact zJ
def agC (a:Ag) (c:Int):Ag:=⟨a.sec,a.rights,c,a.lim,a.req,a.ses,a.rate,a.burst⟩
theorem zNd {l:List Vh} (hv:GP l=true):∀j,j<l.length->∀i,i<j->(l.getD i default).id<(l.getD j default).id
 |0,_,i,hi=>absurd hi (yCj _)
 |j+1,hj,i,hi=>by
  have h1:=((zS6.1 hv).2 (j+1) hj).2 zB;rw[Nat.add_sub_cancel]at h1;by_cases h:i=j
  ·subst h;exact h1
  ·have:=zNd hv j zB i zB;omega
def TJ {l:List Vh} {id:Int} (hv:GP l=true) {k:Nat} (k1:k<=l.length) (k2:∀i,i<k->(l.getD i default).id<id) (k3:k<l.length->¬(l.getD k default).id<id):TE l id=true↔k<l.length/\(l.getD k default).id=id:=by
 constructor
 ·intro h;obtain⟨x,hx,he⟩:=yBo.1 h;obtain⟨i,hi,rfl⟩:=yCh hx;rw[yBf]at he;have hg:l.getD i default=l[i]:=by simp[List.getD,hi]
  rw[<-hg]at he;by_cases h1:i<k
  ·have:=k2 i h1;omega
  ·have hk:k<l.length:=by omega
   by_cases h2:i=k
   ·subst h2;exact⟨hk,he⟩
   ·have h3:=zNd hv i hi k zB;have h4:=k3 hk;omega
 ·rintro⟨hk,he⟩;exact yBo.2 ⟨l.getD k default,by simp[List.getD,hk],by rw[yBf];exact he⟩
theorem BK (l:List Vh) (hn:l.length<=1000000) (a:Ag) (hlim:(a.lim.length:Int)=4) (hc3:a.cls<=3) (v:Vh) (hv:GP l=true) (h1:0<=v.id) (h2:v.id<=4294967295) (h3:0<=v.cls) (h4:v.cls<=a.cls) (htw:TE l v.id=false) (h5:(kO l v.cls:Int)<a.lim.getD v.cls.toNat default) (h6:l.length<8)
  (k:Nat) (k1:k<=l.length) (k2:∀i,i<k->(l.getD i default).id<v.id) (k3:k<l.length->¬(l.getD k default).id<v.id):zN 268 [zD vZ l,wK a,vZ v] [] (.tup [zD vZ (l.take k++v::l.drop k),iA 0]) []:=by
 have hll:=zA vZ l;have hla:=zA iA a.lim;have c2:=VS l hn;have c3:=OU l v.id hn k k1 k2 k3;have c4:=BI l v.cls hn;have c5:=BJ a v.cls h3 zB
 have hne:k<l.length->(l.getD k default).id≠v.id:=λhk e=>by
  rw[(TJ hv k1 k2 k3).2 ⟨hk,e⟩]at htw;cases htw
 rw[hv]at c2;clear hv htw k2 k3
 have hcn:(kO l v.cls:Int)<=1000000:=by
  have:kO l v.cls<=l.length:=yCl _ _;omega
 generalize (kO l v.cls:Int)=cn at *;generalize a.lim.getD v.cls.toNat default=lim at *;have hlK:((l.take (k:Int).toNat).map vZ).length=k:=by simp;omega
 have hlD:((l.drop (k:Int).toNat).map vZ).length=l.length-k:=by simp
 obtain⟨N,hN⟩:∃N,N=l.length+1:=⟨_,rfl⟩;have hnx:((l.map vZ).length:Int)+1=(N:Int):=by omega
 obtain⟨z1,hz1,hz1l⟩:∃z1,z1=(l.take k).map vZ++List.replicate (l.length+1-k) (AV.agg [.s (.int .i64 0),.s (.int .i64 0)])/\z1.length=l.length+1:=⟨_,rfl,by simp;omega⟩
 have hcp1:(List.replicate N (AV.agg [.s (.int .i64 0),.s (.int .i64 0)])).take 0++(l.take (k:Int).toNat).map vZ++(List.replicate N (AV.agg [.s (.int .i64 0),.s (.int .i64 0)])).drop (0+((l.take (k:Int).toNat).map vZ).length)=z1:=by
  rw[hz1,hlK,hN];simp
 have hat:z1[(k:Int).toNat]? =some (AV.agg [.s (.int .i64 0),.s (.int .i64 0)]):=by
  rw[hz1,yA1 vA];rw[yB2,zZ8 vA]
 have hcp2:(z1.set (k:Int).toNat (.agg [iA v.id,iA v.cls])).take ((k:Int)+1).toNat++(l.drop (k:Int).toNat).map vZ++(z1.set (k:Int).toNat (.agg [iA v.id,iA v.cls])).drop (((k:Int)+1).toNat+((l.drop (k:Int).toNat).map vZ).length)=(l.take k++v::l.drop k).map vZ:=by
  have e1:z1.set (k:Int).toNat (.agg [iA v.id,iA v.cls])=(l.take k++[v]).map vZ++List.replicate (l.length-k) (AV.agg [.s (.int .i64 0),.s (.int .i64 0)]):=by
   rw[hz1,yC4 _ _ vA,show l.length+1-k=(l.length-k)+1 by omega,yDy];rw[show(k:Int).toNat-((l.take k).map vZ).length=0 by simp;omega];simp[vZ]
  have hl1:((l.take k++[v]).map vZ).length=k+1:=by simp;omega
  have e2:((l.take k++[v]).map vZ++List.replicate (l.length-k) (AV.agg [.s (.int .i64 0),.s (.int .i64 0)])).drop (k+1+(l.length-k))=[]:=yEo (by rw[yAd,hl1,yB0];exact yAb _);rw[e1,hlD,show((k:Int)+1).toNat=k+1 by omega,yCq zB,yAj zB,e2];simp
 clear hz1;obtain⟨z3,hz3⟩:∃z3,z3=(l.take k++v::l.drop k).map vZ:=⟨_,rfl⟩;have hz3l:z3.length=l.length+1:=by rw[hz3];simp;omega
 rw[<-hz3]at hcp2;rw[show zD vZ (l.take k++v::l.drop k)= .sl false z3 by rw[hz3];rfl];clear hz3;rw[show vZ v= .agg [iA v.id,iA v.cls]from Z]at *; by_cases hk:k<l.length
 ·have hy:=zM vZ l k hk;have hne:=hne hk;generalize l.getD k default=x at *;refine eM call268 λF hF=>?_
  (have zc1:=c2;have zc2:=c3;have zc3:=c4;have zc4:=c5;(repeat' (first|refine uL ?_|((first|apply xM|apply wA)<;>intro hc)|(refine zE ?_;first|(refine gB ?_;refine zLh tok Z Z Z Z Z Z Z Z Z Z Z Z hnx zB zB Z Z Z ?_)|(refine zSy tok Z Z Z Z Z Z Z (xO _ _ (λ_=>rfl)) Z zB (by first|exact hcp1|exact hcp2) Z ?_)|(refine fB ?_;refine cU tok Z Z Z Z Z Z Z zB zB Z ?_))|fail))<;>clear zc1 zc2 zc3 zc4)
  exact zK [] Z Z (yA6 (λz=>AV.tup [AV.sl false z,iA 0]) zSw) Z
 ·clear hne;refine eM call268 λF hF=>?_
  (have zc1:=c2;have zc2:=c3;have zc3:=c4;have zc4:=c5;(repeat' (first|refine uL ?_|((first|apply xM|apply wA)<;>intro hc)|(refine zE ?_;first|(refine gB ?_;refine zLh tok Z Z Z Z Z Z Z Z Z Z Z Z hnx zB zB Z Z Z ?_)|(refine zSy tok Z Z Z Z Z Z Z (xO _ _ (λ_=>rfl)) Z zB (by first|exact hcp1|exact hcp2) Z ?_)|(refine fB ?_;refine cU tok Z Z Z Z Z Z Z zB zB Z ?_))|fail))<;>clear zc1 zc2 zc3 zc4)
  exact zK [] Z Z (yA6 (λz=>AV.tup [AV.sl false z,iA 0]) zSw) Z
theorem MH (l:List Vh) (hn:l.length<=1000000) (a:Ag) (most:Int) (hlim:(a.lim.length:Int)=4) (hc3:a.cls<=3) (v:Vh):∃(l':List Vh) (e:Int),((0<=e/\e<=100)/\(e≠0->l'=[]))/\(l'.length<=l.length+1/\l'.length<=8)/\zN 268 [zD vZ l,wK (agC a (min a.cls most)),vZ v] [] (.tup [zD vZ l',iA e]) []/\yP [zD vZ l,wK a,vZ v,iA most] [] (.tup [zD vZ l',iA e]) []:=by
 have hll:=zA vZ l;have hla:=zA iA a.lim;have p2:=VS l hn;have c1:=zRl l v.id hn;have c2:=zFo l hn;have c3:=zMt l v.cls hn;have p4:=BI l v.cls hn;have hcm:min a.cls most<=3:=by omega
 have hcl:min a.cls most<=a.cls:=by omega
 obtain⟨k,k1,k2,k3⟩:=BH l v.id;have hpl:=λhv=>TJ (l:=l) (id:=v.id) hv k1 k2 k3
 have p3:=OU l v.id hn k k1 k2 k3;have hreg:=λhv h1 h2 h3 h4 htw h5 h6=>BK l hn (agC a (min a.cls most)) hlim hcm v hv h1 h2 h3 h4 htw h5 h6 k k1 k2 k3
 have hcn:kO l v.cls<=1000000:=by
  have:kO l v.cls<=l.length:=yCl _ _;omega
 have p5:=λh3 h4=>BJ (agC a (min a.cls most)) v.cls h3 h4
 rw[show(agC a (min a.cls most)).lim=a.lim from Z]at hreg p5;rw[show(agC a (min a.cls most)).cls=min a.cls most from Z]at hreg;have hAG:wK (agC a (min a.cls most))= .agg [zD yA a.sec,iA a.rights,iA (min a.cls most),zD iA a.lim,iA a.req,iA a.ses,iA a.rate,iA a.burst]:=rfl;rw[hAG]at *; generalize hf:dX l v.id=fv at *;generalize htw:TE l v.id=tw at *;generalize hok:GP l=ok at *;generalize kO l v.cls=cn at *;cases ok
 ·refine⟨[],1,⟨zB,λ_=>rfl⟩,⟨yAp _,yAp _⟩,?_,?_⟩
  ·clear hpl hreg p5;refine eM call268 λF hF=>?_
   refine zV p2 ?_;exact zJ
  ·clear hpl hreg p5;exact yD
 by_cases h1:0<=v.id/\v.id<=4294967295
 case neg=>
  refine⟨[],8,⟨zB,λ_=>rfl⟩,⟨yAp _,yAp _⟩,?_,?_⟩
  ·clear hpl hreg p5
   by_cases g1:0<=v.id<;>((refine eM call268 λF hF=>?_);((refine zV p2 ?_));exact zJ)
  ·clear hpl hreg p5
   by_cases g1:0<=v.id<;>(exact yD)
 obtain⟨h1,h2⟩:=h1;generalize hmm:min a.cls most=mm at *;by_cases h3:0<=v.cls/\v.cls<=mm
 case neg=>
  refine⟨[],17,⟨zB,λ_=>rfl⟩,⟨yAp _,yAp _⟩,?_,?_⟩
  ·clear hpl hreg p5
   by_cases g1:0<=v.cls<;>((refine eM call268 λF hF=>?_);((refine zV p2 ?_));exact zJ)
  ·clear hpl hreg p5;subst hmm
   by_cases g1:0<=v.cls<;>(exact yD)
 obtain⟨h3,h4⟩:=h3;have hpl:=hpl Z;have hp5:=p5 h3 zB;clear p5;cases tw
 case true=>
  obtain⟨hk,hid⟩:=hpl.1 Z;have hy:=zM vZ l k hk;refine⟨[],11,⟨zB,λ_=>rfl⟩,⟨yAp _,yAp _⟩,?_,?_⟩
  ·clear hreg hpl k2 k3;generalize l.getD k default=x at *;refine eM call268 λF hF=>?_
   refine yR (vH p2 p3) ?_;exact zJ
  ·clear hpl hreg;subst hmm;exact yD
 have hne:∀hk:k<l.length,(l.getD k default).id≠v.id:=λhk e=>by
  have:=hpl.2 ⟨hk,e⟩;cases this
 clear hpl;have hyl:=yI iA a.lim v.cls h3 zB;have hreg:=hreg Z h1 h2 h3 h4 Z;generalize a.lim.getD v.cls.toNat default=lim at *;by_cases h5:lim<=cn
 ·refine⟨[],14,⟨zB,λ_=>rfl⟩,⟨yAp _,yAp _⟩,?_,?_⟩
  ·clear hreg k2 k3;by_cases hk:k<l.length
   ·have hy:=zM vZ l k hk;have hne:=hne hk;generalize l.getD k default=x at *;refine eM call268 λF hF=>?_
    refine yR (ZK p2 p3 p4 hp5) ?_;exact zJ
   ·clear hne;refine eM call268 λF hF=>?_
    refine yR (ZK p2 p3 p4 hp5) ?_;exact zJ
  ·clear hreg hne k2 k3;subst hmm;exact yD
 by_cases h6:l.length<8
 case neg=>
  refine⟨[],10,⟨zB,λ_=>rfl⟩,⟨yAp _,yAp _⟩,?_,?_⟩
  ·clear hreg k2 k3;by_cases hk:k<l.length
   ·have hy:=zM vZ l k hk;have hne:=hne hk;generalize l.getD k default=x at *;refine eM call268 λF hF=>?_
    refine yR (ZK p2 p3 p4 hp5) ?_;exact zJ
   ·clear hne;refine eM call268 λF hF=>?_
    refine yR (ZK p2 p3 p4 hp5) ?_;exact zJ
  ·clear hreg hne k2 k3;subst hmm;exact yD
 refine⟨l.take k++v::l.drop k,0,⟨zB,λh=>absurd Z h⟩,⟨by simp;omega,by simp;omega⟩,hreg zB h6,?_⟩;clear hok htw hreg hne p2 p3 p4 hp5;subst hmm;exact yD
section
variable {b:Frame} {a:Act} {k:List Item} {cs:List Frame} {w:World} {P:Program}
def jC {c:Code}:step P (lone (b.atR a (.code (.scope c)::k)) cs w)= .next (lone (b.atR a (.code c:: .inScope c::k)) cs w):=
 step_lone_go (by simp[stepG,stepG.exec,Frame.atR])
def MI {c:Code}:step P (lone (b.atR a (.inScope c::k)) cs w)= .next (lone (b.atR a k) cs w):=
 step_lone_go (by simp[stepG,stepG.exec,Frame.atR])
end
section
variable {F:Fence} {n:Nat} {P:Program} {Q:Exit->Act->World->Prop} {a:Act} {w:World}
def zBq {c:Code} (h:c.wpIn F n P (Exit.noGoto Q) a w):(Code.scope c).wpIn F n P Q a w:=by
 intro b k cs hro hb hr;have h0:(lone (b.atR a (.code (.scope c)::k)) cs w).fenced P F:=fenced_calm hb hr Z;obtain⟨e,a₁,w₁,hq,harr⟩:=h b (.inScope c::k) cs hro hb hr
 cases e with
 |normal=>exact⟨.normal,a₁,w₁,hq,.head h0 jC (StepsIn.trans harr (.one (fenced_calm hb hr Z) MI))⟩
 | exit id=>
  have hx:exitTo id (.inScope c::k)=exitTo id k:=by simp[exitTo]
  exact⟨.exit id,a₁,w₁,hq,λk' hk=> .head h0 jC (harr.1 k' (by rw[hx];exact hk)),
   λhr' hk=>let ⟨k₁,h1,h2⟩:=harr.2 hr' (by rw[hx];exact hk);⟨k₁,h1,.head h0 jC h2⟩⟩
 |goto l=>exact hq.elim
 |ret=>exact⟨_,a₁,w₁,hq,.of_steps (.one h0 jC) harr⟩
 |panic ch=>exact⟨_,a₁,w₁,hq,.of_steps (.one h0 jC) harr⟩
 |outgrown=>exact⟨_,a₁,w₁,hq,.of_steps (.one h0 jC) harr⟩
end
section
variable {P:Program} {K0:List Nat} {F:Fr K0} {m:Nat} {Q:Exit->St->Prop} {st:St}
def noG (Q:Exit->St->Prop):Exit->St->Prop
 | .goto _,_=>False
 |e,s=>Q e s
def vC {c:Code} (h:vK P F m c st (noG Q)):vK P F m (.scope c) st Q:=⟨λa w H=>
 zBq (Code.wpIn_mono (λe a' w' ⟨s,h1,h2⟩=>by
  cases e with
  |goto l=>exact h1.elim
  |_=>exact⟨s,h1,h2⟩) (h.run a w H))⟩
def ZH {c:Code} (K ts:List Nat) (st0 st1 st2:St) (hK:K0.all (K.contains ·)=true) (he:restr K ts st=st0)
  (h0:vK P F m c st0 (λe s=>match e with| .normal=>restr K ts s=st1|e=>Q e s))
  (h1:vK P F m c st1 (λe s=>match e with| .normal=>restr K ts s=st2|e=>Q e s))
  (h2:vK P F m c st2 (λe s=>match e with| .normal=>False|e=>Q e s)):vK P F m (.loop c) st Q:=by
 refine wT (λn s=>(n=2/\s=st0)∨(n=1/\s=st1)∨(n=0/\s=st2)) 2 K ts hK (.inl ⟨rfl,he⟩) ?_;rintro n s (⟨rfl,rfl⟩|⟨rfl,rfl⟩|⟨rfl,rfl⟩)
 ·refine⟨λa w H=>Code.wpIn_mono (λe a' w' ⟨s,q1,q2⟩=>?_) (h0.run a w H)⟩
  cases e with
  |normal=>exact⟨s,⟨1,zB,.inr (.inl ⟨rfl,q1⟩)⟩,q2⟩
  |_=>exact⟨s,q1,q2⟩
 ·refine⟨λa w H=>Code.wpIn_mono (λe a' w' ⟨s,q1,q2⟩=>?_) (h1.run a w H)⟩
  cases e with
  |normal=>exact⟨s,⟨0,zB,.inr (.inr ⟨rfl,q1⟩)⟩,q2⟩
  |_=>exact⟨s,q1,q2⟩
 ·refine⟨λa w H=>Code.wpIn_mono (λe a' w' ⟨s,q1,q2⟩=>?_) (h2.run a w H)⟩
  cases e with
  |normal=>exact q1.elim
  |_=>exact⟨s,q1,q2⟩
def vD {l:Nat} (h:Q .normal st):vK P F m (.label l) st Q:=⟨λ_ _ H=>wpIn_label ⟨st,h,H⟩⟩
end
end Av
end Go.Proofs.YteajjdidebfcjaaGreat
