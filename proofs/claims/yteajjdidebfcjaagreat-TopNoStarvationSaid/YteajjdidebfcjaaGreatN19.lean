/- Part 19. -/
import Derived.Test.YteajjdidebfcjaaGreatN18
import Derived.Scope
namespace Go.Proofs.YteajjdidebfcjaaGreat
namespace Av
open Tryz
set_option linter.all false
set_option maxRecDepth 4000
set_option maxHeartbeats 4000000
def OX (l:List Vh) (id:Int) (hn:l.length<=1000000) (k:Nat) (k1:k<=l.length) (k2:∀i,i<k->(l.getD i default).id<id) (k3:k<l.length->¬(l.getD k default).id<id):zO 269 [zD vY l,iA id] [] (iA k) []:=by
 have hll:=zA vY l;refine eM call269 λF hF=>?_
 refine WW ?_;refine xR (l.length+1) [] [] [0,1] [5,0,1] Z (λi T U zs=>(i<=k)/\zs=⟨(5,iA i)::T,U⟩) ?_;(conv=>whnf);refine⟨?_,?_,?_⟩
 ·exact⟨yBt _,rfl⟩
 ·rintro i st hi ⟨hik,rfl⟩;by_cases hlt:i<k
  ·have hy:=zM vY l i zB;have hh:=k2 i hlt;generalize l.getD i default=x at *;refine WW ?_;exact⟨zB,rfl⟩
  ·obtain rfl:i=k:=by omega
   by_cases hkl:i<l.length
   ·have hy:=zM vY l i hkl;have hh:=k3 hkl;generalize l.getD i default=x at *;refine WW ?_;exact zJ
   ·(refine WW ?_)
    exact zJ
 ·rintro st ⟨hik,rfl⟩;exfalso;omega
def BX (l:List Vh) (c:Int) (hn:l.length<=1000000):zO 297 [zD vY l,iA c] [] (iA (kW l c)) []:=by
 have hl:=zA vY l;refine eM call297 λF hF=>?_
 refine WW ?_;refine yO (l) [] [] [1,8,9] [5,10,1,8,9] Z (λi pre T U=>⟨(5,iA (kW pre c))::(10,iA i)::T,U⟩) ?_;(conv=>whnf);refine⟨by rfl,?_,?_⟩
 ·intro i pre x post hx hi;have hy:=xL vY hx hi;have hlt:=yQ hx hi;have hle:kW pre c<=i:=by rw[<-hi];exact yDr _ _
  have e:kW (pre++[x]) c=kW pre c+(if x.cls=c then 1 else 0):=by
   unfold kW;rw[yEm,yBf];by_cases h:x.cls=c
   ·simp[h]
   ·simp[h]
  clear hx;by_cases h:x.cls=c
  ·rw[yBd h]at e;rw[e];generalize kW pre c=m at *;refine WW ?_;rfl
  ·rw[yBc h,yEn]at e;rw[e];generalize kW pre c=m at *;refine WW ?_;rfl
 ·(refine WW ?_)
  exact zJ
def BZ (a:Ag) (c:Int) (h0:0<=c) (h1:c<a.lim.length):zO 298 [vB a,iA c] [] (iA (a.lim.getD c.toNat default)) []:=by
 have hla:=zA iA a.lim;have hy:=yL iA a.lim c h0 h1;refine eM call298 λF hF=>?_
 refine WW ?_;exact zJ
def agC (a:Ag) (c:Int):Ag:=⟨a.sec,a.rights,c,a.lim,a.req,a.ses,a.rate,a.burst⟩
theorem zMx {l:List Vh} (hv:FN l=true):∀j,j<l.length->∀i,i<j->(l.getD i default).id<(l.getD j default).id
 |0,_,i,hi=>absurd hi (yDp _)
 |j+1,hj,i,hi=>by
  have h1:=((zTu.1 hv).2 (j+1) hj).2 zB;rw[Nat.add_sub_cancel]at h1;by_cases h:i=j
  ·subst h;exact h1
  ·have:=zMx hv j zB i zB;omega
def TU {l:List Vh} {id:Int} (hv:FN l=true) {k:Nat} (k1:k<=l.length) (k2:∀i,i<k->(l.getD i default).id<id) (k3:k<l.length->¬(l.getD k default).id<id):TX l id=true↔k<l.length/\(l.getD k default).id=id:=by
 constructor
 ·intro h;obtain⟨x,hx,he⟩:=yCx.1 h;obtain⟨i,hi,rfl⟩:=yDn hx;rw[yCl]at he;have hg:l.getD i default=l[i]:=by simp[List.getD,hi]
  rw[<-hg]at he;by_cases h1:i<k
  ·have:=k2 i h1;omega
  ·have hk:k<l.length:=by omega
   by_cases h2:i=k
   ·subst h2;exact⟨hk,he⟩
   ·have h3:=zMx hv i hi k zB;have h4:=k3 hk;omega
 ·rintro⟨hk,he⟩;exact yCx.2 ⟨l.getD k default,by simp[List.getD,hk],by rw[yCl];exact he⟩
theorem AA (l:List Vh) (hn:l.length<=1000000) (a:Ag) (hlim:(a.lim.length:Int)=4) (hc3:a.cls<=3) (v:Vh) (hv:FN l=true) (h1:0<=v.id) (h2:v.id<=4294967295) (h3:0<=v.cls) (h4:v.cls<=a.cls) (htw:TX l v.id=false) (h5:(kW l v.cls:Int)<a.lim.getD v.cls.toNat default) (h6:l.length<8)
  (k:Nat) (k1:k<=l.length) (k2:∀i,i<k->(l.getD i default).id<v.id) (k3:k<l.length->¬(l.getD k default).id<v.id):zO 268 [zD vY l,vB a,vY v] [] (.tup [zD vY (l.take k++v::l.drop k),iA 0]) []:=by
 have hll:=zA vY l;have hla:=zA iA a.lim;have c2:=UG l hn;have c3:=OX l v.id hn k k1 k2 k3;have c4:=BX l v.cls hn;have c5:=BZ a v.cls h3 zB
 have hne:k<l.length->(l.getD k default).id≠v.id:=λhk e=>by
  rw[(TU hv k1 k2 k3).2 ⟨hk,e⟩]at htw;cases htw
 rw[hv]at c2;clear hv htw k2 k3
 have hcn:(kW l v.cls:Int)<=1000000:=by
  have:kW l v.cls<=l.length:=yDr _ _;omega
 generalize (kW l v.cls:Int)=cn at *;generalize a.lim.getD v.cls.toNat default=lim at *;have hlK:((l.take (k:Int).toNat).map vY).length=k:=by simp;omega
 have hlD:((l.drop (k:Int).toNat).map vY).length=l.length-k:=by simp
 obtain⟨N,hN⟩:∃N,N=l.length+1:=⟨_,rfl⟩;have hnx:((l.map vY).length:Int)+1=(N:Int):=by omega
 obtain⟨z1,hz1,hz1l⟩:∃z1,z1=(l.take k).map vY++List.replicate (l.length+1-k) (AV.agg [.s (.int .i64 0),.s (.int .i64 0)])/\z1.length=l.length+1:=⟨_,rfl,by simp;omega⟩
 have hcp1:(List.replicate N (AV.agg [.s (.int .i64 0),.s (.int .i64 0)])).take 0++(l.take (k:Int).toNat).map vY++(List.replicate N (AV.agg [.s (.int .i64 0),.s (.int .i64 0)])).drop (0+((l.take (k:Int).toNat).map vY).length)=z1:=by
  rw[hz1,hlK,hN];simp
 have hat:z1[(k:Int).toNat]? =some (AV.agg [.s (.int .i64 0),.s (.int .i64 0)]):=by
  rw[hz1,yB9 wU];rw[yC7,yBd wU]
 have hcp2:(z1.set (k:Int).toNat (.agg [iA v.id,iA v.cls])).take ((k:Int)+1).toNat++(l.drop (k:Int).toNat).map vY++(z1.set (k:Int).toNat (.agg [iA v.id,iA v.cls])).drop (((k:Int)+1).toNat+((l.drop (k:Int).toNat).map vY).length)=(l.take k++v::l.drop k).map vY:=by
  have e1:z1.set (k:Int).toNat (.agg [iA v.id,iA v.cls])=(l.take k++[v]).map vY++List.replicate (l.length-k) (AV.agg [.s (.int .i64 0),.s (.int .i64 0)]):=by
   rw[hz1,yEa _ _ wU,show l.length+1-k=(l.length-k)+1 by omega,yE5];rw[show(k:Int).toNat-((l.take k).map vY).length=0 by simp;omega];simp[vY]
  have hl1:((l.take k++[v]).map vY).length=k+1:=by simp;omega
  have e2:((l.take k++[v]).map vY++List.replicate (l.length-k) (AV.agg [.s (.int .i64 0),.s (.int .i64 0)])).drop (k+1+(l.length-k))=[]:=yFy (by rw[yBf,hl1,yCw];exact yBg _);rw[e1,hlD,show((k:Int)+1).toNat=k+1 by omega,yDw zB,yBo zB,e2];simp
 clear hz1;obtain⟨z3,hz3⟩:∃z3,z3=(l.take k++v::l.drop k).map vY:=⟨_,rfl⟩;have hz3l:z3.length=l.length+1:=by rw[hz3];simp;omega
 rw[<-hz3]at hcp2;rw[show zD vY (l.take k++v::l.drop k)= .sl false z3 by rw[hz3];rfl];clear hz3;rw[show vY v= .agg [iA v.id,iA v.cls]from Z]at *; by_cases hk:k<l.length
 ·have hy:=zM vY l k hk;have hne:=hne hk;generalize l.getD k default=x at *;refine eM call268 λF hF=>?_
  (have zc1:=c2;have zc2:=c3;have zc3:=c4;have zc4:=c5;(repeat' (first|refine uC ?_|((first|apply xE|apply xV)<;>intro hc)|(refine zE ?_;first|(refine hH ?_;refine zD0 tok Z Z Z Z Z Z Z Z Z Z Z Z hnx zB zB Z Z Z ?_)|(refine zTr tok Z Z Z Z Z Z Z (yV _ _ (λ_=>rfl)) Z zB (by first|exact hcp1|exact hcp2) Z ?_)|(refine jI ?_;refine fB tok Z Z Z Z Z Z Z zB zB Z ?_))|fail))<;>clear zc1 zc2 zc3 zc4)
  exact zH [] Z Z (yB8 (λz=>AV.tup [AV.sl false z,iA 0]) zTo) Z
 ·clear hne;refine eM call268 λF hF=>?_
  (have zc1:=c2;have zc2:=c3;have zc3:=c4;have zc4:=c5;(repeat' (first|refine uC ?_|((first|apply xE|apply xV)<;>intro hc)|(refine zE ?_;first|(refine hH ?_;refine zD0 tok Z Z Z Z Z Z Z Z Z Z Z Z hnx zB zB Z Z Z ?_)|(refine zTr tok Z Z Z Z Z Z Z (yV _ _ (λ_=>rfl)) Z zB (by first|exact hcp1|exact hcp2) Z ?_)|(refine jI ?_;refine fB tok Z Z Z Z Z Z Z zB zB Z ?_))|fail))<;>clear zc1 zc2 zc3 zc4)
  exact zH [] Z Z (yB8 (λz=>AV.tup [AV.sl false z,iA 0]) zTo) Z
theorem MV (l:List Vh) (hn:l.length<=1000000) (a:Ag) (most:Int) (hlim:(a.lim.length:Int)=4) (hc3:a.cls<=3) (v:Vh):∃(l':List Vh) (e:Int),((0<=e/\e<=100)/\(e≠0->l'=[]))/\(l'.length<=l.length+1/\l'.length<=8)/\zO 268 [zD vY l,vB (agC a (min a.cls most)),vY v] [] (.tup [zD vY l',iA e]) []/\yU [zD vY l,vB a,vY v,iA most] [] (.tup [zD vY l',iA e]) []:=by
 have hll:=zA vY l;have hla:=zA iA a.lim;have p2:=UG l hn;have c1:=zR1 l v.id hn;have c2:=zGo l hn;have c3:=zNf l v.cls hn;have p4:=BX l v.cls hn;have hcm:min a.cls most<=3:=by omega
 have hcl:min a.cls most<=a.cls:=by omega
 obtain⟨k,k1,k2,k3⟩:=AF l v.id;have hpl:=λhv=>TU (l:=l) (id:=v.id) hv k1 k2 k3
 have p3:=OX l v.id hn k k1 k2 k3;have hreg:=λhv h1 h2 h3 h4 htw h5 h6=>AA l hn (agC a (min a.cls most)) hlim hcm v hv h1 h2 h3 h4 htw h5 h6 k k1 k2 k3
 have hcn:kW l v.cls<=1000000:=by
  have:kW l v.cls<=l.length:=yDr _ _;omega
 have p5:=λh3 h4=>BZ (agC a (min a.cls most)) v.cls h3 h4
 rw[show(agC a (min a.cls most)).lim=a.lim from Z]at hreg p5;rw[show(agC a (min a.cls most)).cls=min a.cls most from Z]at hreg;have hAG:vB (agC a (min a.cls most))= .agg [zD yA a.sec,iA a.rights,iA (min a.cls most),zD iA a.lim,iA a.req,iA a.ses,iA a.rate,iA a.burst]:=rfl;rw[hAG]at *; generalize hf:cR l v.id=fv at *;generalize htw:TX l v.id=tw at *;generalize hok:FN l=ok at *;generalize kW l v.cls=cn at *;cases ok
 ·refine⟨[],1,⟨zB,λ_=>rfl⟩,⟨yBt _,yBt _⟩,?_,?_⟩
  ·clear hpl hreg p5;refine eM call268 λF hF=>?_
   refine zW p2 ?_;exact zJ
  ·clear hpl hreg p5;exact yF
 by_cases h1:0<=v.id/\v.id<=4294967295
 case neg=>
  refine⟨[],8,⟨zB,λ_=>rfl⟩,⟨yBt _,yBt _⟩,?_,?_⟩
  ·clear hpl hreg p5
   by_cases g1:0<=v.id<;>((refine eM call268 λF hF=>?_);((refine zW p2 ?_));exact zJ)
  ·clear hpl hreg p5
   by_cases g1:0<=v.id<;>(exact yF)
 obtain⟨h1,h2⟩:=h1;generalize hmm:min a.cls most=mm at *;by_cases h3:0<=v.cls/\v.cls<=mm
 case neg=>
  refine⟨[],17,⟨zB,λ_=>rfl⟩,⟨yBt _,yBt _⟩,?_,?_⟩
  ·clear hpl hreg p5
   by_cases g1:0<=v.cls<;>((refine eM call268 λF hF=>?_);((refine zW p2 ?_));exact zJ)
  ·clear hpl hreg p5;subst hmm
   by_cases g1:0<=v.cls<;>(exact yF)
 obtain⟨h3,h4⟩:=h3;have hpl:=hpl Z;have hp5:=p5 h3 zB;clear p5;cases tw
 case true=>
  obtain⟨hk,hid⟩:=hpl.1 Z;have hy:=zM vY l k hk;refine⟨[],11,⟨zB,λ_=>rfl⟩,⟨yBt _,yBt _⟩,?_,?_⟩
  ·clear hreg hpl k2 k3;generalize l.getD k default=x at *;refine eM call268 λF hF=>?_
   refine yS (vH p2 p3) ?_;exact zJ
  ·clear hpl hreg;subst hmm;exact yF
 have hne:∀hk:k<l.length,(l.getD k default).id≠v.id:=λhk e=>by
  have:=hpl.2 ⟨hk,e⟩;cases this
 clear hpl;have hyl:=yL iA a.lim v.cls h3 zB;have hreg:=hreg Z h1 h2 h3 h4 Z;generalize a.lim.getD v.cls.toNat default=lim at *;by_cases h5:lim<=cn
 ·refine⟨[],14,⟨zB,λ_=>rfl⟩,⟨yBt _,yBt _⟩,?_,?_⟩
  ·clear hreg k2 k3;by_cases hk:k<l.length
   ·have hy:=zM vY l k hk;have hne:=hne hk;generalize l.getD k default=x at *;refine eM call268 λF hF=>?_
    refine yS (bY p2 p3 p4 hp5) ?_;exact zJ
   ·clear hne;refine eM call268 λF hF=>?_
    refine yS (bY p2 p3 p4 hp5) ?_;exact zJ
  ·clear hreg hne k2 k3;subst hmm;exact yF
 by_cases h6:l.length<8
 case neg=>
  refine⟨[],10,⟨zB,λ_=>rfl⟩,⟨yBt _,yBt _⟩,?_,?_⟩
  ·clear hreg k2 k3;by_cases hk:k<l.length
   ·have hy:=zM vY l k hk;have hne:=hne hk;generalize l.getD k default=x at *;refine eM call268 λF hF=>?_
    refine yS (bY p2 p3 p4 hp5) ?_;exact zJ
   ·clear hne;refine eM call268 λF hF=>?_
    refine yS (bY p2 p3 p4 hp5) ?_;exact zJ
  ·clear hreg hne k2 k3;subst hmm;exact yF
 refine⟨l.take k++v::l.drop k,0,⟨zB,λh=>absurd Z h⟩,⟨by simp;omega,by simp;omega⟩,hreg zB h6,?_⟩;clear hok htw hreg hne p2 p3 p4 hp5;subst hmm;exact yF
section
variable {b:Frame} {a:Act} {k:List Item} {cs:List Frame} {w:World} {P:Program}
def jM {c:Code}:step P (lone (b.atR a (.code (.scope c)::k)) cs w)= .next (lone (b.atR a (.code c:: .inScope c::k)) cs w):=
 step_lone_go (by simp[stepG,stepG.exec,Frame.atR])
def MW {c:Code}:step P (lone (b.atR a (.inScope c::k)) cs w)= .next (lone (b.atR a k) cs w):=
 step_lone_go (by simp[stepG,stepG.exec,Frame.atR])
end
section
variable {F:Fence} {n:Nat} {P:Program} {Q:Exit->Act->World->Prop} {a:Act} {w:World}
def zBz {c:Code} (h:c.wpIn F n P (Exit.noGoto Q) a w):(Code.scope c).wpIn F n P Q a w:=by
 intro b k cs hro hb hr;have h0:(lone (b.atR a (.code (.scope c)::k)) cs w).fenced P F:=fenced_calm hb hr Z;obtain⟨e,a₁,w₁,hq,harr⟩:=h b (.inScope c::k) cs hro hb hr
 cases e with
 |normal=>exact⟨.normal,a₁,w₁,hq,.head h0 jM (StepsIn.trans harr (.one (fenced_calm hb hr Z) MW))⟩
 | exit id=>
  have hx:exitTo id (.inScope c::k)=exitTo id k:=by simp[exitTo]
  exact⟨.exit id,a₁,w₁,hq,λk' hk=> .head h0 jM (harr.1 k' (by rw[hx];exact hk)),
   λhr' hk=>let ⟨k₁,h1,h2⟩:=harr.2 hr' (by rw[hx];exact hk);⟨k₁,h1,.head h0 jM h2⟩⟩
 |goto l=>exact hq.elim
 |ret=>exact⟨_,a₁,w₁,hq,.of_steps (.one h0 jM) harr⟩
 |panic ch=>exact⟨_,a₁,w₁,hq,.of_steps (.one h0 jM) harr⟩
 |outgrown=>exact⟨_,a₁,w₁,hq,.of_steps (.one h0 jM) harr⟩
end
section
variable {P:Program} {K0:List Nat} {F:Fr K0} {m:Nat} {Q:Exit->St->Prop} {st:St}
def noG (Q:Exit->St->Prop):Exit->St->Prop
 | .goto _,_=>False
 |e,s=>Q e s
def vE {c:Code} (h:vO P F m c st (noG Q)):vO P F m (.scope c) st Q:=⟨λa w H=>
 zBz (Code.wpIn_mono (λe a' w' ⟨s,h1,h2⟩=>by
  cases e with
  |goto l=>exact h1.elim
  |_=>exact⟨s,h1,h2⟩) (h.run a w H))⟩
def ZX {c:Code} (K ts:List Nat) (st0 st1 st2:St) (hK:K0.all (K.contains ·)=true) (he:restr K ts st=st0)
  (h0:vO P F m c st0 (λe s=>match e with| .normal=>restr K ts s=st1|e=>Q e s))
  (h1:vO P F m c st1 (λe s=>match e with| .normal=>restr K ts s=st2|e=>Q e s))
  (h2:vO P F m c st2 (λe s=>match e with| .normal=>False|e=>Q e s)):vO P F m (.loop c) st Q:=by
 refine wW (λn s=>(n=2/\s=st0)∨(n=1/\s=st1)∨(n=0/\s=st2)) 2 K ts hK (.inl ⟨rfl,he⟩) ?_;rintro n s (⟨rfl,rfl⟩|⟨rfl,rfl⟩|⟨rfl,rfl⟩)
 ·refine⟨λa w H=>Code.wpIn_mono (λe a' w' ⟨s,q1,q2⟩=>?_) (h0.run a w H)⟩
  cases e with
  |normal=>exact⟨s,⟨1,zB,.inr (.inl ⟨rfl,q1⟩)⟩,q2⟩
  |_=>exact⟨s,q1,q2⟩
 ·refine⟨λa w H=>Code.wpIn_mono (λe a' w' ⟨s,q1,q2⟩=>?_) (h1.run a w H)⟩
  cases e with
  |normal=>exact⟨s,⟨0,zB,.inr (.inr ⟨rfl,q1⟩)⟩,q2⟩
  |_=>exact⟨s,q1,q2⟩
 ·refine⟨λa w H=>Code.wpIn_mono (λe a' w' ⟨s,q1,q2⟩=>?_) (h2.run a w H)⟩
  cases e with
  |normal=>exact q1.elim
  |_=>exact⟨s,q1,q2⟩
def vF {l:Nat} (h:Q .normal st):vO P F m (.label l) st Q:=⟨λ_ _ H=>wpIn_label ⟨st,h,H⟩⟩
end
def zWz (N:Nat) (h1:1<=N) (h2:N<=1000000):zO 299 [.s (.slice none 0 0),iA N] [] (.ref 1001 0 0) [(1001,.arr 2 [] true)]:=by
 have hnx:(N:Int)-(0-0)=(N:Int):=by omega
 have hn3:(N:Int)-(0-((0:Nat):Int))=(N:Int):=by omega
 refine eM call299 λF hF=>?_
 (repeat' (first|refine WS ?_|refine SG (I2 (λhc=>?_) λhc=>?_)|refine SG λhc=>?_|(refine zE ?_;first|(refine wK (OU tok Z Z Z) Z ?_)|(refine jI ?_;refine wK (zBy tok Z Z Z Z Z) Z ?_)|(refine zRq tok Z Z Z Z Z Z Z Z Z Z Z Z Z Z (by first|exact hnx|exact hn3) h1 zB Z Z Z ?_)|(refine jI ?_;refine zEg tok Z Z Z Z Z Z Z Z ?_))|(first|refine zGe 0 22 1001 Z Z Z ?_|first|refine SR ?_|refine SK (I2 (λhc=>?_) λhc=>?_)|refine SK λhc=>?_|fail)|fail))
 exact zK [1001] Z Z Z Z
def zRr:zO 299 [.s (.slice none 0 0),iA 0] [] (.s (.slice none 0 0)) []:=by
 refine eM call299 λF hF=>?_
 (repeat' (first|refine uC ?_|((first|apply xE|apply xV)<;>intro hc)|(refine zE ?_;first|(refine wK (OU tok Z Z Z) Z ?_))|fail))
 exact zK [] Z Z Z Z
theorem zMy (a b:List Vh) (ha:a.length<=1000) (hb:b.length<=1000):zO 270 [.sl false [zD vY a,zD vY b]] [] (zD vY (a++b)) []:=by
 have hla:=zA vY a;have hlb:=zA vY b;rw[show zD vY (a++b)= .sl false (a.map vY++b.map vY) by unfold zD;rw[yBn]];have hsa:zD vY a= .sl false (a.map vY):=rfl;have hsb:zD vY b= .sl false (b.map vY):=rfl;rw[hsa,hsb];have hhA:∀y,(a.map vY)[0]? =some y->y.cells.length=2:=yV _ _ (λ_=>rfl);have hhB:∀y,(b.map vY)[0]? =some y->y.cells.length=2:=yV _ _ (λ_=>rfl);generalize a.map vY=A at *;generalize b.map vY=B at *;clear hsa hsb;have hyA:([AV.sl false A,.sl false B]:List AV)[(0:Int).toNat]? =some (.sl false A):=rfl;have hyB:([AV.sl false A,.sl false B]:List AV)[(0+1:Int).toNat]? =some (.sl false B):=rfl;have hl2:([AV.sl false A,.sl false B]:List AV).length=2:=rfl;generalize [AV.sl false A,.sl false B]=X at *;refine eM call270 λF hF=>?_
 refine WW ?_;refine ZX [] [3,11,0,9,10] ⟨[(3,iA 0),(11,iA 0),(0,.sl false X),(9,.sl false X),(10,iA X.length)],[]⟩ ⟨[(3,iA (0+(A.length:Int))),(11,iA (0+1)),(0,.sl false X),(9,.sl false X),(10,iA X.length)],[]⟩ ⟨[(3,iA (0+(A.length:Int)+(B.length:Int))),(11,iA (0+1+1)),(0,.sl false X),(9,.sl false X),(10,iA X.length)],[]⟩ rfl Z ?_ ?_ ?_
 ·(refine WW ?_)
  rfl
 ·(refine WW ?_)
  rfl
 by_cases hN:A.length+B.length=0
 ·have c0:=zRr;rw[show iA 0=iA (0+(A.length:Int)+(B.length:Int)) by rw[show(0:Int)+(A.length:Int)+(B.length:Int)=0 by omega]]at c0
  (repeat' (first|refine uC ?_|((first|apply xE|apply xV)<;>intro hc)|(refine zE ?_;refine wA ?_;(refine uF 299 ?_;first|refine wK (kN c0 Z Z Z Z Z) Z ?_|refine qA (kN c0 Z Z Z Z Z) Z Z Z ?_|refine XZ (kN c0 Z Z Z Z Z) Z Z Z ?_))|(refine zE ?_;first|refine SM ?_)|fail))
  refine xC 6 1001 2 Z Z Z ?_;refine ZX [1001] [6,27,25,26] ⟨[(6,.ref 1001 0 0),(27,iA 0),(25,.sl false X),(26,iA X.length)],[(1001,.arr 2 [] true)]⟩ ⟨[(6,.ref 1001 0 A.length),(27,iA (0+1)),(25,.sl false X),(26,iA X.length)],[(1001,.arr 2 A false)]⟩ ⟨[(6,.ref 1001 0 (A++B).length),(27,iA (0+1+1)),(25,.sl false X),(26,iA X.length)],[(1001,.arr 2 (A++B) true)]⟩ rfl Z ?_ ?_ ?_
  ·(repeat' (first|refine uC ?_|((first|apply xE|apply xV)<;>intro hc)|(refine zE ?_;first|(refine yM ?_;first|refine wJ tok Z Z Z Z Z Z Z hhA Z Z Z zB Z ?_|refine kC tok Z Z Z Z Z Z Z Z Z Z Z hhB zB Z ?_))|fail))
   rfl
  ·(repeat' (first|refine uC ?_|((first|apply xE|apply xV)<;>intro hc)|(refine zE ?_;first|(refine yM ?_;first|refine wJ tok Z Z Z Z Z Z Z hhA Z Z Z zB Z ?_|refine kC tok Z Z Z Z Z Z Z Z Z Z Z hhB zB Z ?_))|fail))
   rfl
  ·(refine WW ?_)
   exact zH [] Z Z (yB8 (AV.sl false) (by rw[yCg,yBj])) Z
 ·have c0:=zWz (A.length+B.length) zB zB;rw[show((A.length+B.length:Nat):Int)=0+(A.length:Int)+(B.length:Int) by omega]at c0
  (repeat' (first|refine uC ?_|((first|apply xE|apply xV)<;>intro hc)|(refine zE ?_;refine wA ?_;(refine uF 299 ?_;first|refine wK (kN c0 Z Z Z Z Z) Z ?_|refine qA (kN c0 Z Z Z Z Z) Z Z Z ?_|refine XZ (kN c0 Z Z Z Z Z) Z Z Z ?_))|(refine zE ?_;first|refine SM ?_)|fail))
  refine ZX [1001] [6,27,25,26] ⟨[(6,.ref 1001 0 0),(27,iA 0),(25,.sl false X),(26,iA X.length)],[(1001,.arr 2 [] true)]⟩ ⟨[(6,.ref 1001 0 A.length),(27,iA (0+1)),(25,.sl false X),(26,iA X.length)],[(1001,.arr 2 A false)]⟩ ⟨[(6,.ref 1001 0 (A++B).length),(27,iA (0+1+1)),(25,.sl false X),(26,iA X.length)],[(1001,.arr 2 (A++B) true)]⟩ rfl Z ?_ ?_ ?_
  ·(repeat' (first|refine uC ?_|((first|apply xE|apply xV)<;>intro hc)|(refine zE ?_;first|(refine yM ?_;first|refine wJ tok Z Z Z Z Z Z Z hhA Z Z Z zB Z ?_|refine kC tok Z Z Z Z Z Z Z Z Z Z Z hhB zB Z ?_))|fail))
   rfl
  ·(repeat' (first|refine uC ?_|((first|apply xE|apply xV)<;>intro hc)|(refine zE ?_;first|(refine yM ?_;first|refine wJ tok Z Z Z Z Z Z Z hhA Z Z Z zB Z ?_|refine kC tok Z Z Z Z Z Z Z Z Z Z Z hhB zB Z ?_))|fail))
   rfl
  ·(refine WW ?_)
   exact zH [] Z Z (yB8 (AV.sl false) (by rw[yCg,yBj])) Z
def rmV (l:List Vh) (id:Int):List Vh:=l.filter λv=>decide (v.id≠id)
def zMz {l:List Vh} {id:Int} (h:TX l id=false):rmV l id=l:=by
 unfold rmV;refine yEs.2 λx hx=>yBk λe=>?_
 have:=yD4.1 h x hx;exact this (by rw[yCl];exact e)
def zM0 {l:List Vh} {id:Int} (hv:FN l=true) {k:Nat} (hk:k<l.length) (he:(l.getD k default).id=id):rmV l id=l.take k++l.drop (k+1):=by
 have e0:l.getD k default=l[k]:=by simp[List.getD,hk]
 have e1:l=l.take k++l[k]::l.drop (k+1):=by rw[List.getElem_cons_drop,yEz]
 have hlt:=zMx hv
 have h1:rmV (l.take k) id=l.take k:=by
  refine yEs.2 λx hx=>yBk λe=>?_
  obtain⟨i,hi,rfl⟩:=yDn hx;simp only[yB4]at hi;have q1:=hlt k hk i zB;have q2:l.getD i default=l[i]:=by simp[List.getD,show i<l.length by omega]
  rw[List.getElem_take]at e;rw[q2,e,he]at q1;omega
 have h2:rmV (l.drop (k+1)) id=l.drop (k+1):=by
  refine yEs.2 λx hx=>yBk λe=>?_
  obtain⟨i,hi,rfl⟩:=yDn hx;simp only[yCj]at hi;have q1:=hlt (k+1+i) zB k zB;have q2:l.getD (k+1+i) default=l[k+1+i]:=by simp[List.getD,show k+1+i<l.length by omega]
  rw[List.getElem_drop]at e;rw[q2,e,he]at q1;omega
 conv=>lhs;rw[e1]
 unfold rmV at h1 h2⊢;rw[yEm,yF7,yBc (by rw[<-e0,he];simp),h1,h2]
def zGf (l:List Vh) (hn:l.length<=1000000) (id:Int):yU [zD vY l,iA id] [] (if FN l=true then(if(rmV l id).length=l.length then .tup [.sl false [],iA 12]else .tup [zD vY (rmV l id),iA 0])else .tup [.sl false [],iA 1]) []:=yF
def AB (l:List Vh) (hn:l.length<=1000) (id:Int):∃(l':List Vh) (e:Int),((0<=e/\e<=100)/\(e≠0->l'=[]))/\l'.length<=l.length/\zO 241 [zD vY l,iA id] [] (.tup [zD vY l',iA e]) []/\yU [zD vY l,iA id] [] (.tup [zD vY l',iA e]) []:=by
 have hll:=zA vY l;have p2:=UG l zB;have c:=zGf l zB id;obtain⟨k,k1,k2,k3⟩:=AF l id;have p3:=OX l id zB k k1 k2 k3
 cases hv:FN l with
 |false=>
  rw[hv]at p2 c;rw[yBc yBw]at c;refine⟨[],1,⟨zB,λ_=>rfl⟩,by simp,?_,c⟩;refine eM call241 λF hF=>?_
  refine WLo p2 ?_;exact zJ
 |true=>
 have hpl:=TU (id:=id) hv k1 k2 k3;rw[hv]at p2 c;rw[yBd Z]at c
 cases hh:TX l id with
 | false=>
  rw[yBd (by rw[zMz hh])]at c;refine⟨[],12,⟨zB,λ_=>rfl⟩,by simp,?_,c⟩
  have hne:∀hk:k<l.length,(l.getD k default).id≠id:=λhk e=>by
   rw[hpl.2 ⟨hk,e⟩]at hh;cases hh
  clear hpl k2 k3 c;by_cases hk:k<l.length
  ·have hy:=zM vY l k hk;have hne:=hne hk;generalize l.getD k default=x at *;refine eM call241 λF hF=>?_
   refine WLc (vH p2 p3) ?_;exact zJ
  ·clear hne;refine eM call241 λF hF=>?_
   refine WLc (vH p2 p3) ?_;exact zJ
 |true=>
  obtain⟨hk,he⟩:=hpl.1 hh;have er:=zM0 hv hk he;have hlen:(rmV l id).length=l.length-1:=by rw[er];simp;omega
  rw[yBc zB]at c;refine⟨rmV l id,0,⟨zB,λh=>absurd Z h⟩,zB,?_,c⟩;have c4:=zMy (l.take (k:Int).toNat) (l.drop ((k:Int)+1).toNat) wU wU;rw[show l.take (k:Int).toNat++l.drop ((k:Int)+1).toNat=rmV l id by rw[er];congr 1]at c4;have hy:=zM vY l k hk;clear hpl k2 k3 c er hlen;generalize rmV l id=l' at *;generalize l.getD k default=x at *;refine eM call241 λF hF=>?_
  refine WLc (gW p2 p3 c4) ?_;exact zJ
def zTs (t:Tk):zO 296 [xB t] [] (bA (!t.used)) []:=by
 obtain⟨u,a,b,c,d,e⟩:=t
 cases u with
 |true=>
  rw[show xB ⟨true,a,b,c,d,e⟩= .agg [bA true,zD yA a,iA b,iA c,iA d,iA e]from Z];refine eM call296 λF hF=>?_
  refine WW ?_;exact zJ
 |false=>
  rw[show xB ⟨false,a,b,c,d,e⟩= .agg [bA false,zD yA a,iA b,iA c,iA d,iA e]from Z];refine eM call296 λF hF=>?_
  refine WW ?_;exact zJ
def zZg (l:List Tk) (hn:l.length<=1000000) (k:Nat) (hk:k<l.length) (h1:∀i,i<k->(l.getD i default).used=true) (h2:(l.getD k default).used=false):zO 295 [zD xB l,.fn 296 []] [] (iA k) []:=by
 have hl:=zA xB l;refine eM call295 λF hF=>?_
 refine WW ?_;refine xR (l.length) [] [] [0,1,7] [8,0,1,7] Z (λi T U zs=>(i<=k)/\zs=⟨(8,iA i)::T,U⟩) ?_;(conv=>whnf);refine⟨?_,?_,?_⟩
 ·exact⟨yBt _,rfl⟩
 ·rintro i st hi ⟨hik,rfl⟩;have hy:=zM xB l i hi;have c:=zTs (l.getD i default);by_cases hie:i=k
  ·subst hie;rw[h2]at c;generalize l.getD i default=t at *;refine zW c ?_;exact zJ
  ·rw[h1 i zB]at c;generalize l.getD i default=t at *;refine zW c ?_;exact⟨zB,rfl⟩
 ·rintro st ⟨hik,rfl⟩;exfalso;omega
def unF (life now:Int):Int:=if 0<life then now+life else 0
def zRs (l:List Tk) (k:Nat) (t:Tk) (n:Nat) (hn:n=l.length):zD xB (l.set k t)= .sl false (((l.map xB).set k (xB t)).take n):=by
 rw[<-yDa,yBo wU];rfl
def T0K (l o:List Tk):Prop:=(l.getD 0 default).used=true->(l.getD 0 default).par= -1->o.getD 0 default=l.getD 0 default
def zGg (l:List Tk) (s:Int) (j:Nat):Tk:=if deF l j s=true then frT else l.getD j default
def UL (l:List Tk) (s:Int) (n:Nat):List Tk:=(List.range l.length).map λj=>if j<n then zGg l s j else l.getD j default
def QO (l:List Tk) (s:Int) (n:Nat):(UL l s n).length=l.length:=by simp[UL]
def zM1 (l:List Tk) (s:Int):UL l s 0=l:=by
 apply yCs;intro i;unfold UL;rw[yBh];by_cases h:i<l.length
 ·rw[yCe h];simp[h,List.getD]
 ·rw[yB6 (l:=List.range l.length) wU,yB6 zB];rfl
def zW0 (l:List Tk) (s:Int) (n:Nat) (h:n<l.length):(UL l s n)[n]? =some (l.getD n default):=by
 unfold UL;rw[yBh,yCe h];simp
def zM2 (l:List Tk) (s:Int) (n:Nat) (h:n<l.length):UL l s (n+1)=(UL l s n).set n (zGg l s n):=by
 apply yCs;intro i;rw[yDe];unfold UL;rw[yBh,yBh,yBe,yCy];by_cases hi:i<l.length
 ·rw[yCe hi];by_cases e:n=i
  ·subst e;rw[yBd Z,yBd hi];simp
  ·rw[yBc e];simp only[Option.map_some];by_cases h1:i<n
   ·rw[yBd h1,yBd zB]
   ·rw[yBc h1,yBc zB]
 ·rw[yB6 (l:=List.range l.length) wU,yBc zB];rfl
def zGh (l:List Tk) (hb:FJ l) (hv:MF l=true) (s:Int) (hs:1<=s/\s<8) (h8:l.length=8) (hu:(l.getD s.toNat default).used=true):zO 238 [zD xB l,iA s] [] (.tup [zD xB (UL l s l.length),iA 0]) []:=by
 have c1:=VE l;rw[hv]at c1;have c2:=XH l hb;have hll:=zA xB l;have hy:=yL xB l s zB zB;have hd:=λj=>zK6 l j s
 have fc:=zBc;generalize l.getD s.toNat default=t at *;obtain⟨u,a1,a2,a3,a4,a5⟩:=t;dsimp only at hu;subst hu;rw[show xB ⟨true,a1,a2,a3,a4,a5⟩= .agg [bA true,zD yA a1,iA a2,iA a3,iA a4,iA a5]from Z]at hy;refine eM call238 λF hF=>?_
 refine yS (vH c1 c2) ?_;refine zN (l.length) [1001] [] [0,1,6,26] [27,0,1,6,26] Z (λi T U=>⟨(27,iA i)::T,(1001,.arr 6 ((UL l s i).map xB) false)::U⟩) ?_;(conv=>whnf);refine⟨by(rw[zM1];rfl),?_,?_⟩
 ·intro i hi;have hyi:((UL l s i).map xB)[i]? =some (xB (l.getD i default)):=by rw[yBh,zW0 l s i hi];rfl
  have c3:=hd i;have hrl:i<((UL l s i).map xB).length:=by rw[yBe,QO];exact hi
  rw[zM2 l s i hi,yDa];have hset:(l.getD i default)=(l.getD i default):=rfl
  have hsame:((UL l s i).map xB).set i (xB (l.getD i default))=(UL l s i).map xB:=by
   rw[yB0]at hyi;obtain⟨h,e⟩:=hyi;rw[<-e,yGq]
  unfold zGg
  cases hde:deF l i s with
  |true=>
   rw[hde]at c3;rw[yBd Z];generalize (UL l s i).map xB=xs at *;generalize l.getD i default=ti at *;clear hsame hset hd c1 c2;refine yS (vH c3 fc) ?_;rfl
  |false=>
   rw[hde]at c3;rw[yBc yBw,hsame];generalize (UL l s i).map xB=xs at *;clear hsame hset hd c1 c2 fc;refine zW c3 ?_;rfl
 ·have hle:=QO l s l.length;rw[show zD xB (UL l s l.length)= .sl false (((UL l s l.length).map xB).take (l.map xB).length) by rw[yBo (by simp[hle])];rfl];generalize (UL l s l.length).map xB=xs at *;refine WW ?_;exact zJ
def FM (l:List Tk) (k:Nat) (e:Int) (t:Tk):List Tk:=if e=0 then l.set k t else []
def zM3 {P:Nat->Prop}:∀n,P n->∃m,m<=n/\P m/\∀k,k<m->¬P k:=by
 intro n
 induction n using Nat.strongRecOn with
 |_ n ih=>
  intro h;by_cases hx:∃k,k<n/\P k
  ·obtain⟨k,h1,h2⟩:=hx;obtain⟨m,h3,h4,h5⟩:=ih k h1 h2;exact⟨m,zB,h4,h5⟩
  ·exact⟨n,yBg _,h,λk h1 h2=>hx ⟨k,h1,h2⟩⟩
def zW1 (l:List Tk) (hn:l.length<=1000000) (h1:∀i,i<l.length->(l.getD i default).used=true):zO 295 [zD xB l,.fn 296 []] [] (iA (-1)) []:=by
 have hl:=zA xB l;refine eM call295 λF hF=>?_
 refine WW ?_;refine zN (l.length) [] [] [0,1,7] [8,0,1,7] Z (λi T U=>⟨(8,iA i)::T,U⟩) ?_;(conv=>whnf);refine⟨by rfl,?_,?_⟩
 ·intro i hi;have hy:=zM xB l i hi;have c:=zTs (l.getD i default);rw[h1 i hi]at c;generalize l.getD i default=t at *;refine zW c ?_;rfl
 ·(refine WW ?_)
  exact zJ
def zM4 (l:List Tk) (p R c life now:Int):Prop:=∃(k:Nat) (e:Int),(0<=e/\e<=20)/\(k=0∨k<l.length)/\(e=0->MF l=true/\0<=p/\p<l.length/\(l.getD k default).used=false)/\∀sec:List Int,(sec.length:Int)=8->
 zO 265 [zD xB l,iA p,iA R,iA c,iA life,zD yA sec,iA now] [] (.tup [zD xB (FM l k e ⟨true,sec,p,R,c,unF life now⟩),iA k,iA e]) []/\
 yU [zD xB l,iA p,iA R,iA c,iA life,zD yA sec,iA now] [] (.tup [zD xB (FM l k e ⟨true,sec,p,R,c,unF life now⟩),iA k,iA e]) []
def dF {l:List Tk} {p R c life now:Int} (e:Int) (h1:1<=e) (h2:e<=20) (h:∀sec:List Int,(sec.length:Int)=8->zO 265 [zD xB l,iA p,iA R,iA c,iA life,zD yA sec,iA now] [] (.tup [zD xB [],iA 0,iA e]) []/\yU [zD xB l,iA p,iA R,iA c,iA life,zD yA sec,iA now] [] (.tup [zD xB [],iA 0,iA e]) []):zM4 l p R c life now:=
 ⟨0,e,⟨zB,h2⟩,.inl Z,λh0=>by omega,λsec hs=>by
  have hd:FM l 0 e ⟨true,sec,p,R,c,unF life now⟩=[]:=by unfold FM;rw[yBc zB]
  rw[hd]
  exact h sec hs⟩
theorem AC (l:List Tk) (hb:FJ l) (p R c life now:Int):zM4 l p R c life now:=by
 have hn:=hb.n;have hll:=zA xB l;have c1:=VE l;have r1:=LT l;rw[<-zKu]at r1
 cases hv:MF l with
 | false=>
  rw[hv]at c1 r1
  exact dF 1 zB zB λsec hs=>⟨by
   have hls:=zA yA sec;refine eM call265 λF hF=>?_
   refine zW c1 ?_
   exact zJ,by
   have hls:=zA yA sec
   exact yF⟩
 |true=>
 rw[hv]at c1 r1;have h8:(l.length:Int)=8:=by unfold MF at hv;rw[yBq,yBi]at hv;exact hv.1
 by_cases hn0:0<=now
 case neg=>
  exact dF 1 zB zB λsec hs=>⟨by
   have hls:=zA yA sec;refine eM call265 λF hF=>?_
   refine zW c1 ?_
   exact zJ,by
   have hls:=zA yA sec
   exact yF⟩
 by_cases hn1:now<=1073741824
 case neg=>
  exact dF 1 zB zB λsec hs=>⟨by
   have hls:=zA yA sec;refine eM call265 λF hF=>?_
   refine zW c1 ?_
   exact zJ,by
   have hls:=zA yA sec
   exact yF⟩
 have c2:=zBb l p;by_cases hp0:0<=p
 case neg=>
  rw[show fN l p=false by unfold fN;rw[yBm (λh=>hp0 h.1)];rfl]at c2
  exact dF 12 zB zB λsec hs=>⟨by
   have hls:=zA yA sec;refine eM call265 λF hF=>?_
   refine yS (vH c1 c2) ?_
   exact zJ,by
   have hls:=zA yA sec
   exact yF⟩
 by_cases hp1:p<l.length
 case neg=>
  rw[show fN l p=false by unfold fN;rw[yBm (λh=>hp1 h.2)];rfl]at c2
  exact dF 12 zB zB λsec hs=>⟨by
   have hls:=zA yA sec;refine eM call265 λF hF=>?_
   refine yS (vH c1 c2) ?_
   exact zJ,by
   have hls:=zA yA sec
   exact yF⟩
 have hy:=yL xB l p hp0 hp1;have hus:fN l p=(l.getD p.toNat default).used:=by unfold fN;rw[yBk ⟨hp0,hp1⟩,yB2]
 rw[hus]at c2;have c3:=CK R (l.getD p.toNat default).rights;have r3:=zFt R (l.getD p.toNat default).rights;have c4:=zDz (unF life now) (l.getD p.toNat default).til;have r4:=zLt (unF life now) (l.getD p.toNat default).til
 have hun:unF life now=if 0<life then now+life else 0:=rfl
 generalize unF life now=un at *;clear hus;generalize l.getD p.toNat default=t at *;obtain⟨u,t1,t2,t3,t4,t5⟩:=t;rw[show∀u,xB ⟨u,t1,t2,t3,t4,t5⟩= .agg [bA u,zD yA t1,iA t2,iA t3,iA t4,iA t5]from λ_=>rfl]at hy;dsimp only at*
 cases u with
 | false=>
  exact dF 12 zB zB λsec hs=>⟨by
   have hls:=zA yA sec;refine eM call265 λF hF=>?_
   refine yS (vH c1 c2) ?_
   exact zJ,by
   have hls:=zA yA sec
   exact yF⟩
 |true=>
 cases hw:wiF R t3 with
 | false=>
  rw[hw]at c3 r3
  exact dF 8 zB zB λsec hs=>⟨by
   have hls:=zA yA sec;refine eM call265 λF hF=>?_
   refine yS (gW c1 c2 c3) ?_
   exact zJ,by
   have hls:=zA yA sec
   exact yF⟩
 |true=>
 rw[hw]at c3 r3;by_cases hc0:0<=c
 case neg=>
  exact dF 8 zB zB λsec hs=>⟨by
   have hls:=zA yA sec;refine eM call265 λF hF=>?_
   refine yS (gW c1 c2 c3) ?_
   exact zJ,by
   have hls:=zA yA sec
   exact yF⟩
 by_cases hc1:c<=t4
 case neg=>
  exact dF 8 zB zB λsec hs=>⟨by
   have hls:=zA yA sec;refine eM call265 λF hF=>?_
   refine yS (gW c1 c2 c3) ?_
   exact zJ,by
   have hls:=zA yA sec
   exact yF⟩
 by_cases hl0:0<=life
 case neg=>
  exact dF 8 zB zB λsec hs=>⟨by
   have hls:=zA yA sec;refine eM call265 λF hF=>?_
   refine yS (gW c1 c2 c3) ?_
   exact zJ,by
   have hls:=zA yA sec
   exact yF⟩
 by_cases hl1:life<=600
 case neg=>
  exact dF 8 zB zB λsec hs=>⟨by
   have hls:=zA yA sec;refine eM call265 λF hF=>?_
   refine yS (gW c1 c2 c3) ?_
   exact zJ,by
   have hls:=zA yA sec
   exact yF⟩
 cases hla:laF un t5 with
 | true=>
  rw[hla]at c4 r4;by_cases h0:0<life
  ·rw[yBd h0]at hun;subst hun
   exact dF 8 zB zB λsec hs=>⟨by
    have hls:=zA yA sec;refine eM call265 λF hF=>?_
    refine yS (bY c1 c2 c3 c4) ?_
    exact zJ,by
    have hls:=zA yA sec
    exact yF⟩
  ·rw[yBc h0]at hun;subst hun
   exact dF 8 zB zB λsec hs=>⟨by
    have hls:=zA yA sec;refine eM call265 λF hF=>?_
    refine yS (bY c1 c2 c3 c4) ?_
    exact zJ,by
    have hls:=zA yA sec
    exact yF⟩
 |false=>
 rw[hla]at c4 r4;clear hla hw;by_cases hex:∃k,k<l.length/\(l.getD k default).used=false
 case neg=>
  have hall:∀i,i<l.length->(l.getD i default).used=true:=λi hi=>by
   cases h:(l.getD i default).used with
   |true=>rfl
   |false=>exact absurd ⟨i,hi,h⟩ hex
  have c5:=zW1 l hn hall
  rcases(show(0<life/\unF life now=now+life)∨(¬0<life/\unF life now=0) by unfold unF;by_cases h:0<life;exact .inl ⟨h,yBd h⟩;exact .inr ⟨h,yBc h⟩)with⟨h0,hu0⟩|⟨h0,hu0⟩
  ·rw[yBd h0]at hun;subst hun
   exact dF 10 zB zB λsec hs=>⟨by
    have hls:=zA yA sec;refine eM call265 λF hF=>?_
    refine yS (zt5 c1 c2 c3 c4 c5) ?_
    exact zJ,by
    have hls:=zA yA sec
    exact yF⟩
  ·rw[yBc h0]at hun;subst hun
   exact dF 10 zB zB λsec hs=>⟨by
    have hls:=zA yA sec;refine eM call265 λF hF=>?_
    refine yS (zt5 c1 c2 c3 c4 c5) ?_
    exact zJ,by
    have hls:=zA yA sec
    exact yF⟩
 obtain⟨k0,hk0,hu0⟩:=hex;obtain⟨k,_,⟨hk,hkf⟩,hkm⟩:=zM3 (P:=λk=>k<l.length/\(l.getD k default).used=false) k0 ⟨hk0,hu0⟩
 have hbe:∀i,i<k->(l.getD i default).used=true:=λi hi=>by
  cases h:(l.getD i default).used with
  |true=>rfl
  |false=>exact absurd ⟨zB,h⟩ (hkm i hi)
 have c5:=zZg l hn k hk hbe hkf;have c6:=XH l hb;have r6:=zA7 l hb;refine⟨k,0,zB,.inr hk,λ_=>⟨hv,hp0,hp1,hkf⟩,λsec hs=>?_⟩;have hd:∀x:Tk,FM l k 0 x=l.set k x:=λx=>by unfold FM;rw[yBd Z]
 rw[hd];have c7:=wX sec zB;have hls:=zA yA sec;have hyk:=zM xB l k hk;have eS:=zRs l k ⟨true,sec,p,R,c,unF life now⟩ (l.map xB).length hll;rw[eS];clear eS hd;rw[show unF life now=if 0<life then now+life else 0 from Z];by_cases h0:0<life
 ·rw[yBd h0]at hun⊢;subst hun;refine⟨?_,?_⟩
  ·clear r1 r3 r4 r6 hbe hkm hkf;generalize l.getD k default=tk at *;refine eM call265 λF hF=>?_
   refine yS (zt7 c1 c2 c3 c4 c5 c6 c7) ?_;exact zJ
  ·clear c1 c2 c3 c4 c5 c6 c7;exact yF
 ·rw[yBc h0]at hun⊢;subst hun;refine⟨?_,?_⟩
  ·clear r1 r3 r4 r6 hbe hkm hkf;generalize l.getD k default=tk at *;refine eM call265 λF hF=>?_
   refine yS (zt7 c1 c2 c3 c4 c5 c6 c7) ?_;exact zJ
  ·clear c1 c2 c3 c4 c5 c6 c7;exact yF
def zZh (l:List Tk) (s:Int) (h8:l.length=8):UL l s l.length=frB (λi=>ldF l 9 i s) l 8:=by
 unfold UL frB;apply yEt;intro j hj;have hj:=yBz.1 hj;unfold zGg;rw[yBd hj,zTd h8];by_cases h:ldF l 9 j s=true
 ·rw[yBd h,yBd ⟨zB,h⟩]
 ·rw[yBc h,yBc (λk=>h k.2)]
def ZY:FJ []:=⟨by simp,λt h=>by simp at h⟩
def zW2 {l:List Tk} (hb:FJ l) (s:Int) (n:Nat):FJ (UL l s n):=by
 refine⟨by rw[QO];exact hb.n,λt ht=>?_⟩
 have hg:∀j,(l.getD j default).sec.length<=1000000:=λj=>by
  by_cases h:j<l.length
  ·exact hb.s _ (by simp[List.getD,h])
  ·rw[show l.getD j default=default by simp[List.getD,h]];exact yBt _
 unfold UL at ht;rw[yCc]at ht;obtain⟨j,_,rfl⟩:=ht;split
 ·unfold zGg;split
  ·exact yBt _
  ·exact hg j
 ·exact hg j
def zW3 {l:List Tk} {s:Int} (h1:1<=s) (h8:1<=l.length):T0K l (UL l s l.length):=λhu hp=>by
 have e:deF l 0 s=false:=by
  unfold deF;rw[jB,show fN l 0=true by unfold fN;rw[yBk ⟨yC8 0,zB⟩,yB2];exact hu,yCu];rw[show(0:Int).toNat=0 from Z,hp];rw[jB,show fN l (-1)=false by unfold fN;rw[yBm zB,yC4],yDc];simp;omega
 unfold UL;rw[yBl,yBh,yCe zB,Option.map_some,yDi,yBd zB];unfold zGg;rw[show((0:Nat):Int)=0 from Z,e,yBc yBw]
def AD (l:List Tk) (hb:FJ l) (s:Int):∃(o:List Tk) (e:Int),(0<=e/\e<=20)/\FJ o/\(e=0->o.length=l.length/\T0K l o)/\zO 238 [zD xB l,iA s] [] (.tup [zD xB o,iA e]) []/\yU [zD xB l,iA s] [] (.tup [zD xB o,iA e]) []:=by
 have hn:=hb.n;have hll:=zA xB l;have c1:=VE l;have r1:=LT l;rw[<-zKu]at r1
 cases hv:MF l with
 | false=>
  rw[hv]at c1 r1;refine⟨[],1,zB,ZY,λh=>absurd h xO,?_,?_⟩
  ·(refine eM call238 λF hF=>?_)
   refine zW c1 ?_;exact zJ
  ·exact yF
 |true=>
 rw[hv]at c1 r1;have h8:l.length=8:=by unfold MF at hv;rw[yBq,yBi]at hv;omega
 by_cases h1:1<=s
 case neg=>
  refine⟨[],8,zB,ZY,λh=>absurd h xO,?_,?_⟩
  ·(refine eM call238 λF hF=>?_)
   refine zW c1 ?_;exact zJ
  ·exact yF
 by_cases h2:s<8
 case neg=>
  refine⟨[],8,zB,ZY,λh=>absurd h xO,?_,?_⟩
  ·(refine eM call238 λF hF=>?_)
   refine zW c1 ?_;exact zJ
  ·exact yF
 have hy:=yL xB l s zB zB
 cases hu:(l.getD s.toNat default).used with
 | false=>
  rw[show xB (l.getD s.toNat default)=NX false (l.getD s.toNat default) by unfold xB NX;rw[hu]]at hy;unfold NX at hy;generalize l.getD s.toNat default=t at *;refine⟨[],12,zB,ZY,λh=>absurd h xO,?_,?_⟩
  ·(refine eM call238 λF hF=>?_)
   refine zW c1 ?_;exact zJ
  ·exact yF
 |true=>
  have cr:=zGh l hb hv s ⟨h1,h2⟩ h8 hu;have b1:=zP3 l s h8;rw[h8]at b1;have b2:=zP4 l hb (λi=>ldF l 9 i s) h8;rw[<-zZh l s h8]at b2;rw[show xB (l.getD s.toNat default)=NX true (l.getD s.toNat default) by unfold xB NX;rw[hu]]at hy;unfold NX at hy;refine⟨UL l s l.length,0,zB,zW2 hb s _,λ_=>⟨QO l s _,zW3 zB zB⟩,cr,?_⟩;clear cr hu;generalize UL l s l.length=l2 at *;generalize eQ (λi=>ldF l 9 i s) 8=b at *;generalize l.getD s.toNat default=t at *;exact yF
def RN (r:Rg):xM:= .box [iA r.num,zD yA r.ag.sec,iA r.ag.rights,iA r.ag.cls,zD iA r.ag.lim,iA r.ag.req,iA r.ag.ses,iA r.ag.rate,iA r.ag.burst,zD xB r.tk,zD vY r.vh,iA r.bk.level,iA r.bk.rate,iA r.bk.burst]
def rgT (r:Rg) (l:List Tk):Rg:=⟨r.num,r.ag,l,r.vh,r.bk⟩
def zTt (m:Ms) (a:Int) (ha:m.args=[a]):zO 239 [yB m] [] (yB ⟨14,[],[m.kind,a],[]⟩) []:=by
 obtain⟨k,t,ar,d⟩:=m;dsimp only at ha⊢;subst ha;have hl1:([a].map iA).length=1:=rfl;refine eM call239 λF hF=>?_
 refine WL ?_;exact zJ
def zW4 {l:List Tk} (h:MF l=true):FJ l/\l.length=8:=by
 rw[zKu]at h;have T:=(zVy l).1 h;refine⟨⟨by have:=T.n;omega,λt ht=>?_⟩,T.n⟩;obtain⟨i,hi,rfl⟩:=yDn ht;have hi8:i<8:=by have:=T.n;omega
 have e:l.getD i default=l[i]:=by simp[List.getD,hi]
 cases hu:(l.getD i default).used with
 |false=>
  have:=T.f i hi8 hu;unfold DQ at this;rw[yBi]at this;rw[<-e];omega
 |true=>
  have:=(T.s i hi8 hu).1;unfold soF zKn at this;simp only[yBq,yBi]at this;rw[<-e];omega
def zW5 {l:List Tk} (hb:FJ l) (k:Nat) (e:Int) (t:Tk) (ht:t.sec.length<=1000000):FJ (FM l k e t):=by
 unfold FM;split
 ·refine⟨by rw[yC3];exact hb.n,λx hx=>?_⟩
  rcases yEk hx with h|rfl
  ·exact hb.s x h
  ·exact ht
 ·exact ZY
structure GvB (r:Rg):Prop where
 num:0<=r.num/\r.num<4
 b:CP r
 tv:MF r.tk=true
 n8:r.tk.length=8
 lim:(r.ag.lim.length:Int)=4
 cls:0<=r.ag.cls/\r.ag.cls<=3
 vl:r.vh.length<=8
def zM5 {r:Rg} (h:gvF r=true):GvB r:=by
 unfold gvF at h;simp only[yBq,yBi]at h;obtain⟨h1,h2,h3,h4,h5,h6⟩:=h;obtain⟨t1,t2⟩:=zW4 h3;have hv:=(zTu.1 h4).1;unfold avF at h2;simp only[yBq,yBi]at h2;obtain⟨⟨a1,a2⟩,a3,a4,a5,a6⟩:=h2;unfold jO at a5;rw[yBi]at a5;exact⟨h1,⟨t1,zB,zB,zB⟩,h3,t2,a2,a5,hv⟩
def rg0:Rg:=⟨0,⟨[],0,0,[],0,0,0,0⟩,[],[],⟨0,0,0⟩⟩
def QP:Ms:=⟨0,[],[],[]⟩
def doR (e:Int):AV:= .tup [uZ rg0,yB QP,bA false,iA e]
def zZi:CP rg0:=⟨ZY,yBt _,yBt _,yBt _⟩
def cC (e:Int):doR e= .tup [.agg [iA 0,.sl false [],iA 0,iA 0,.sl false [],iA 0,iA 0,iA 0,iA 0,.sl false [],.sl false [],iA 0,iA 0,iA 0],.agg [iA 0,.sl false [],.sl false [],.sl false []],bA false,iA e]:=rfl
def XR (r:Rg) (m:Ms) (s now:Int) (sec:List Int) (gv b us:Bool) (c1:zO 235 [uZ r] [] (bA gv) []) (c2:zO 195 [yB m] [] (bA b) []) (c3:zO 236 [zD xB r.tk,iA s] [] (bA us) []) (h:gv=false∨b=false∨us=false∨(¬(sec.length:Int)=0/\¬(sec.length:Int)=8)) (hsl:sec.length<=1000):
  zO 220 [uZ r,yB m,iA s,iA now,zD yA sec] [] (doR 1) []:=by
 rw[cC];have hls:=zA yA sec;cases gv
 ·(refine eM call220 λF hF=>?_)
  refine zW c1 ?_;exact zJ
 cases b
 ·(refine eM call220 λF hF=>?_)
  refine yS (vH c1 c2) ?_;exact zJ
 cases us
 ·(refine eM call220 λF hF=>?_)
  refine yS (gW c1 c2 c3) ?_;exact zJ
 ·rcases h with h|h|h|⟨h1,h2⟩
  ·cases h
  ·cases h
  ·cases h
  ·(refine eM call220 λF hF=>?_)
   refine yS (gW c1 c2 c3) ?_;exact zJ
def zM6 (r:Rg) (m:Ms) (s now:Int) (sec:List Int) (c1:yU [uZ r] [] (bA false) []):
 yU [uZ r,yB m,iA s,iA now,zD yA sec] [] (doR 1) []:=yF
def zM7 (r:Rg) (m:Ms) (s now:Int) (sec:List Int) (c1:yU [uZ r] [] (bA true) []) (h2:¬m.kind=2) (h3:¬m.kind=3) (h4:¬m.kind=4) (h5:¬m.kind=5):
 yU [uZ r,yB m,iA s,iA now,zD yA sec] [] (doR 1) []:=yF
def OY (r:Rg) (m:Ms) (s now:Int) (sec:List Int) (n8:r.tk.length=8) (b:Bool) (c1:yU [uZ r] [] (bA true) []) (c2:zO 98 [yB m] [] (bA b) []) (hk:m.kind=2∨m.kind=3∨m.kind=4∨m.kind=5)
 (h:b=false∨fN r.tk s=false∨(¬(sec.length:Int)=0/\¬(sec.length:Int)=8)) (hsl:sec.length<=1000):yU [uZ r,yB m,iA s,iA now,zD yA sec] [] (doR 1) []:=yF
def zB0 (k a:Int):yU [iA k,iA a] [] (yB ⟨14,[],[k,a],[]⟩) []:=yF
def rgV (r:Rg) (l:List Vh):Rg:=⟨r.num,r.ag,r.tk,l,r.bk⟩
def DoP (r:Rg) (m:Ms) (sec:List Int) (r':Rg) (p:Ms) (u:Bool) (e:Int):Prop:=
 (e≠0->u=false/\0<=e/\e<=100)/\(e=0->(∃o,o.length=8/\T0K r.tk o/\r'=rgT r o/\((u=false/\p=⟨14,[],[3,m.args.getD 0 0],[]⟩/\m.kind=3)∨(u=true/\sec.length=8/\m.kind=2/\∃k:Nat,k<8/\p=⟨16,[],[(k:Int)],r.num::(k:Int)::sec⟩)))∨
  (∃o,o.length<=8/\r'=rgV r o/\u=false/\(m.kind=4∨m.kind=5)/\p=⟨14,[],[m.kind,m.args.getD 0 0],[]⟩))
def XS (r:Rg) (m:Ms) (s now:Int) (sec:List Int):Prop:=∃(r':Rg) (p:Ms) (u:Bool) (e:Int),CP r'/\MsB p/\DoP r m sec r' p u e/\
 zO 220 [uZ r,yB m,iA s,iA now,zD yA sec] [] (.tup [uZ r',yB p,bA u,iA e]) []/\
 yU [uZ r,yB m,iA s,iA now,zD yA sec] [] (.tup [uZ r',yB p,bA u,iA e]) []
def zZj:MsB QP:=⟨yBt _,yBt _,yBt _⟩
theorem XS.bad {r:Rg} {m:Ms} {s now:Int} {sec:List Int} (e:Int) (he:e≠0) (h1:zO 220 [uZ r,yB m,iA s,iA now,zD yA sec] [] (doR e) []) (h2:yU [uZ r,yB m,iA s,iA now,zD yA sec] [] (doR e) []) (hb:0<=e/\e<=100:=by omega):XS r m s now sec:=
 ⟨rg0,QP,false,e,zZi,zZj,⟨λ_=>⟨rfl,hb⟩,λh=>absurd h he⟩,h1,h2⟩
def do3 (r:Rg) (hgv:gvF r=true) (tkn:List Int) (a s now:Int) (sec:List Int) (hu:fN r.tk s=true) (hs:(sec.length:Int)=0∨(sec.length:Int)=8)
  (m1:zO 195 [yB ⟨3,tkn,[a],[]⟩] [] (bA true) []) (m2:zO 98 [yB ⟨3,tkn,[a],[]⟩] [] (bA true) []):XS r ⟨3,tkn,[a],[]⟩ s now sec:=by
 have H:=zM5 hgv;have c1:=ZE r MU;have k1:=cP r MU;rw[hgv]at c1 k1;have c3:=UH r.tk s;rw[hu]at c3;have c4:=eV r H.b;have k4:=QF r H.b;have c6:=zTt ⟨3,tkn,[a],[]⟩ a Z;have k6:=zB0 3 a;rw[show yB ⟨14,[],[(⟨3,tkn,[a],[]⟩:Ms).kind,a],[]⟩= .agg [iA 14,.sl false [],.sl false [iA 3,iA a],.sl false []]from Z]at c6;rw[show yB ⟨14,[],[3,a],[]⟩= .agg [iA 14,.sl false [],.sl false [iA 3,iA a],.sl false []]from Z]at k6;obtain⟨o,e,_,ho,ho8,c5,k5⟩:=AD r.tk H.b.tk a;have hls:=zA yA sec;have hlt:=zA xB r.tk;have hl1:([a].map iA).length=1:=rfl
 have hU:(r.tk.getD s.toNat default).used=true/\0<=s/\s<8:=by
  unfold fN at hu;rw[yBq,yBi]at hu;exact⟨hu.2,hu.1.1,by have:=H.n8;omega⟩
 have hn8:=H.n8;have hy:=yL xB r.tk s hU.2.1 zB;have hbR:CP (rgT r o):=⟨ho,H.b.s,H.b.l,H.b.v⟩;obtain⟨hU,hs0,hs8⟩:=hU;clear hu H hgv;generalize r.tk.getD s.toNat default=x at *;obtain⟨xu,x1,x2,x3,x4,x5⟩:=x;dsimp only at hU;subst hU;rw[show xB ⟨true,x1,x2,x3,x4,x5⟩= .agg [bA true,zD yA x1,iA x2,iA x3,iA x4,iA x5]from Z]at hy;by_cases he:e=0
 ·subst he;refine⟨rgT r o,⟨14,[],[3,a],[]⟩,false,0,hbR,⟨yBt _,by simp,yBt _⟩,⟨λh=>absurd Z h,λ_=> .inl ⟨o,by rw[(ho8 Z).1,hn8],(ho8 Z).2,rfl,.inl ⟨rfl,rfl,rfl⟩⟩⟩,?_,?_⟩
  ·rw[show yB ⟨14,[],[3,a],[]⟩= .agg [iA 14,.sl false [],.sl false [iA 3,iA a],.sl false []]from Z]
   rcases hs with hs|hs
   all_goals
    refine eM call220 λF hF=>?_
    refine yS (zt6 c1 m1 c3 c4 c5 c6) ?_;exact zJ
  ·rw[show yB ⟨14,[],[3,a],[]⟩= .agg [iA 14,.sl false [],.sl false [iA 3,iA a],.sl false []]from Z]
   rcases hs with hs|hs
   all_goals
    exact yF
 ·refine .bad e he ?_ ?_
  ·rw[cC]
   rcases hs with hs|hs
   all_goals
    refine eM call220 λF hF=>?_
    refine yS (zt6 c1 m1 c3 c4 c5 c6) ?_;exact zJ
  ·rw[cC]
   rcases hs with hs|hs
   all_goals
    exact yF
end Av
end Go.Proofs.YteajjdidebfcjaaGreat
