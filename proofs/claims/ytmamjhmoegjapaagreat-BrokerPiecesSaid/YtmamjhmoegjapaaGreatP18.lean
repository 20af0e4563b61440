/- Part 18. -/
import Derived.Test.YtmamjhmoegjapaaGreatP17
import Derived.Test.YtmamjhmoegjapaaGreatP10
import Derived.Test.YtmamjhmoegjapaaGreatP09
import Derived.Scope
import Derived.Test.YtmamjhmoegjapaaGreatP16
import Derived.Test.YtmamjhmoegjapaaGreatP15
namespace Go.Proofs.YtmamjhmoegjapaaGreat
namespace Av
open Tryz
set_option linter.unusedSimpArgs false
set_option linter.unusedVariables false
set_option linter.unusedSectionVars false
set_option maxRecDepth 4000
set_option maxHeartbeats 4000000
theorem PN (l:List Vh) (id:Int) (hn:l.length<=1000000) (k:Nat) (k1:k<=l.length) (k2:∀i,i<k->(l.getD i default).id<id) (k3:k<l.length->¬(l.getD k default).id<id):zN 287 [zD vT l,iA id] [] (iA k) []:=by
 have hll:=zA vT l;refine eM call287 λF hF=>?_
 refine WW ?_;refine xV (l.length+1) [] [] [0,1] [5,0,1] rfl (λi T U zs=>(i<=k)/\zs=⟨(5,iA i)::T,U⟩) ?_;(conv=>whnf);refine⟨?_,?_,?_⟩
 ·exact⟨zYe _,rfl⟩
 ·rintro i st hi ⟨hik,rfl⟩;by_cases hlt:i<k
  ·have hy:=zM vT l i zB;have hh:=k2 i hlt;generalize l.getD i default=x at *;refine WW ?_;exact⟨zB,rfl⟩
  ·obtain rfl:i=k:=by omega
   by_cases hkl:i<l.length
   ·have hy:=zM vT l i hkl;have hh:=k3 hkl;generalize l.getD i default=x at *;refine WW ?_;exact zJ
   ·(refine WW ?_)
    exact zJ
 ·rintro st ⟨hik,rfl⟩;exfalso;omega
theorem EH (l:List Vh) (c:Int) (hn:l.length<=1000000):zN 303 [zD vT l,iA c] [] (iA (kX l c)) []:=by
 have hl:=zA vT l;refine eM call303 λF hF=>?_
 refine WW ?_;refine zY (l) [] [] [1,8,9] [5,10,1,8,9] rfl (λi pre T U=>⟨(5,iA (kX pre c))::(10,iA i)::T,U⟩) ?_;(conv=>whnf);refine⟨by rfl,?_,?_⟩
 ·intro i pre x post hx hi;have hy:=yI vT hx hi;have hlt:=yB hx hi;have hle:kX pre c<=i:=by rw[<-hi];exact yAd _ _
  have e:kX (pre++[x]) c=kX pre c+(if x.cls=c then 1 else 0):=by
   unfold kX;rw[yBq,zX3];by_cases h:x.cls=c
   ·simp[h]
   ·simp[h]
  clear hx;by_cases h:x.cls=c
  ·rw[zX1 h]at e;rw[e];generalize kX pre c=m at *;refine WW ?_;rfl
  ·rw[zX0 h,yAr]at e;rw[e];generalize kX pre c=m at *;refine WW ?_;rfl
 ·(refine WW ?_)
  exact zJ
theorem EJ (a:Ag) (c:Int) (h0:0<=c) (h1:c<a.lim.length):zN 304 [vC a,iA c] [] (iA (a.lim.getD c.toNat default)) []:=by
 have hla:=zA iA a.lim;have hy:=yM iA a.lim c h0 h1;refine eM call304 λF hF=>?_
 refine WW ?_;exact zJ
def agC (a:Ag) (c:Int):Ag:=⟨a.sec,a.rights,c,a.lim,a.req,a.ses,a.rate,a.burst⟩
theorem zIc {l:List Vh} (hv:GK l=true):∀j,j<l.length->∀i,i<j->(l.getD i default).id<(l.getD j default).id
 |0,_,i,hi=>absurd hi (yAi _)
 |j+1,hj,i,hi=>by
  have h1:=((zQn.1 hv).2 (j+1) hj).2 zB;rw[Nat.add_sub_cancel]at h1;by_cases h:i=j
  ·subst h;exact h1
  ·have:=zIc hv j zB i zB;omega
theorem UZ {l:List Vh} {id:Int} (hv:GK l=true) {k:Nat} (k1:k<=l.length) (k2:∀i,i<k->(l.getD i default).id<id) (k3:k<l.length->¬(l.getD k default).id<id):TB l id=true↔k<l.length/\(l.getD k default).id=id:=by
 constructor
 ·intro h;obtain⟨x,hx,he⟩:=zZp.1 h;obtain⟨i,hi,rfl⟩:=yAa hx;rw[zZg]at he;have hg:l.getD i default=l[i]:=by simp[List.getD,hi]
  rw[<-hg]at he;by_cases h1:i<k
  ·have:=k2 i h1;omega
  ·have hk:k<l.length:=by omega
   by_cases h2:i=k
   ·subst h2;exact⟨hk,he⟩
   ·have h3:=zIc hv i hi k zB;have h4:=k3 hk;omega
 ·rintro⟨hk,he⟩;exact zZp.2 ⟨l.getD k default,by simp[List.getD,hk],by rw[zZg];exact he⟩
theorem EK (l:List Vh) (hn:l.length<=1000000) (a:Ag) (hlim:(a.lim.length:Int)=4) (hc3:a.cls<=3) (v:Vh) (hv:GK l=true) (h1:0<=v.id) (h2:v.id<=4294967295) (h3:0<=v.cls) (h4:v.cls<=a.cls) (htw:TB l v.id=false) (h5:(kX l v.cls:Int)<a.lim.getD v.cls.toNat default) (h6:l.length<8)
  (k:Nat) (k1:k<=l.length) (k2:∀i,i<k->(l.getD i default).id<v.id) (k3:k<l.length->¬(l.getD k default).id<v.id):zN 286 [zD vT l,vC a,vT v] [] (.tup [zD vT (l.take k++v::l.drop k),iA 0]) []:=by
 have hll:=zA vT l;have hla:=zA iA a.lim;have c2:=VL l hn;have c3:=PN l v.id hn k k1 k2 k3;have c4:=EH l v.cls hn;have c5:=EJ a v.cls h3 zB
 have hne:k<l.length->(l.getD k default).id≠v.id:=λhk e=>by
  rw[(UZ hv k1 k2 k3).2 ⟨hk,e⟩]at htw;cases htw
 rw[hv]at c2;clear hv htw k2 k3
 have hcn:(kX l v.cls:Int)<=1000000:=by
  have:kX l v.cls<=l.length:=yAd _ _;omega
 generalize (kX l v.cls:Int)=cn at *;generalize a.lim.getD v.cls.toNat default=lim at *;have hlK:((l.take (k:Int).toNat).map vT).length=k:=by simp;omega
 have hlD:((l.drop (k:Int).toNat).map vT).length=l.length-k:=by simp
 obtain⟨N,hN⟩:∃N,N=l.length+1:=⟨_,rfl⟩;have hnx:((l.map vT).length:Int)+1=(N:Int):=by omega
 obtain⟨z1,hz1,hz1l⟩:∃z1,z1=(l.take k).map vT++List.replicate (l.length+1-k) (AV.agg [.s (.int .i64 0),.s (.int .i64 0)])/\z1.length=l.length+1:=⟨_,rfl,by simp;omega⟩
 have hcp1:(List.replicate N (AV.agg [.s (.int .i64 0),.s (.int .i64 0)])).take 0++(l.take (k:Int).toNat).map vT++(List.replicate N (AV.agg [.s (.int .i64 0),.s (.int .i64 0)])).drop (0+((l.take (k:Int).toNat).map vT).length)=z1:=by
  rw[hz1,hlK,hN];simp
 have hat:z1[(k:Int).toNat]? =some (AV.agg [.s (.int .i64 0),.s (.int .i64 0)]):=by
  rw[hz1,zYs wQ];rw[zZs,zX1 wQ]
 have hcp2:(z1.set (k:Int).toNat (.agg [iA v.id,iA v.cls])).take ((k:Int)+1).toNat++(l.drop (k:Int).toNat).map vT++(z1.set (k:Int).toNat (.agg [iA v.id,iA v.cls])).drop (((k:Int)+1).toNat+((l.drop (k:Int).toNat).map vT).length)=(l.take k++v::l.drop k).map vT:=by
  have e1:z1.set (k:Int).toNat (.agg [iA v.id,iA v.cls])=(l.take k++[v]).map vT++List.replicate (l.length-k) (AV.agg [.s (.int .i64 0),.s (.int .i64 0)]):=by
   rw[hz1,yA0 _ _ wQ,show l.length+1-k=(l.length-k)+1 by omega,yBl];rw[show(k:Int).toNat-((l.take k).map vT).length=0 by simp;omega];simp[vT]
  have hl1:((l.take k++[v]).map vT).length=k+1:=by simp;omega
  have e2:((l.take k++[v]).map vT++List.replicate (l.length-k) (AV.agg [.s (.int .i64 0),.s (.int .i64 0)])).drop (k+1+(l.length-k))=[]:=yCa (by rw[zX3,hl1,zZd];exact zX6 _);rw[e1,hlD,show((k:Int)+1).toNat=k+1 by omega,yAc zB,zYb zB,e2];simp
 clear hz1;obtain⟨z3,hz3⟩:∃z3,z3=(l.take k++v::l.drop k).map vT:=⟨_,rfl⟩;have hz3l:z3.length=l.length+1:=by rw[hz3];simp;omega
 rw[<-hz3]at hcp2;rw[show zD vT (l.take k++v::l.drop k)= .sl false z3 by rw[hz3];rfl];clear hz3;rw[show vT v= .agg [iA v.id,iA v.cls]from rfl]at *; by_cases hk:k<l.length
 ·have hy:=zM vT l k hk;have hne:=hne hk;generalize l.getD k default=x at *;refine eM call286 λF hF=>?_
  (have zc1:=c2;have zc2:=c3;have zc3:=c4;have zc4:=c5;(repeat' (first|refine qB ?_|refine xO (λhc=>?_) (λhc=>?_)|refine wB (λhc=>?_)|(refine zE ?_;first|(refine gU ?_;refine zCp tok rfl rfl rfl rfl rfl rfl rfl rfl rfl rfl rfl rfl hnx zB zB rfl rfl rfl ?_)|(refine zQ3 tok rfl rfl rfl rfl rfl rfl rfl (xT _ _ (λ_=>rfl)) rfl zB (by first|exact hcp1|exact hcp2) rfl ?_)|(refine jN ?_;refine fG tok rfl rfl rfl rfl rfl rfl rfl zB zB rfl ?_))|fail))<;>clear zc1 zc2 zc3 zc4)
  exact zI [] rfl rfl (zY0 (λz=>AV.tup [AV.sl false z,iA 0]) zQz) rfl
 ·clear hne;refine eM call286 λF hF=>?_
  (have zc1:=c2;have zc2:=c3;have zc3:=c4;have zc4:=c5;(repeat' (first|refine qB ?_|refine xO (λhc=>?_) (λhc=>?_)|refine wB (λhc=>?_)|(refine zE ?_;first|(refine gU ?_;refine zCp tok rfl rfl rfl rfl rfl rfl rfl rfl rfl rfl rfl rfl hnx zB zB rfl rfl rfl ?_)|(refine zQ3 tok rfl rfl rfl rfl rfl rfl rfl (xT _ _ (λ_=>rfl)) rfl zB (by first|exact hcp1|exact hcp2) rfl ?_)|(refine jN ?_;refine fG tok rfl rfl rfl rfl rfl rfl rfl zB zB rfl ?_))|fail))<;>clear zc1 zc2 zc3 zc4)
  exact zI [] rfl rfl (zY0 (λz=>AV.tup [AV.sl false z,iA 0]) zQz) rfl
theorem MC (l:List Vh) (hn:l.length<=1000000) (a:Ag) (most:Int) (hlim:(a.lim.length:Int)=4) (hc3:a.cls<=3) (v:Vh):∃(l':List Vh) (e:Int),((0<=e/\e<=100)/\(e≠0->l'=[]))/\(l'.length<=l.length+1/\l'.length<=8)/\zN 286 [zD vT l,vC (agC a (min a.cls most)),vT v] [] (.tup [zD vT l',iA e]) []/\yR [zD vT l,vC a,vT v,iA most] [] (.tup [zD vT l',iA e]) []:=by
 have hll:=zA vT l;have hla:=zA iA a.lim;have p2:=VL l hn;have c1:=zN8 l v.id hn;have c2:=zD6 l hn;have c3:=zI2 l v.cls hn;have p4:=EH l v.cls hn;have hcm:min a.cls most<=3:=by omega
 have hcl:min a.cls most<=a.cls:=by omega
 obtain⟨k,k1,k2,k3⟩:=EP l v.id;have hpl:=λhv=>UZ (l:=l) (id:=v.id) hv k1 k2 k3
 have p3:=PN l v.id hn k k1 k2 k3;have hreg:=λhv h1 h2 h3 h4 htw h5 h6=>EK l hn (agC a (min a.cls most)) hlim hcm v hv h1 h2 h3 h4 htw h5 h6 k k1 k2 k3
 have hcn:kX l v.cls<=1000000:=by
  have:kX l v.cls<=l.length:=yAd _ _;omega
 have p5:=λh3 h4=>EJ (agC a (min a.cls most)) v.cls h3 h4
 rw[show(agC a (min a.cls most)).lim=a.lim from rfl]at hreg p5;rw[show(agC a (min a.cls most)).cls=min a.cls most from rfl]at hreg;have hAG:vC (agC a (min a.cls most))= .agg [zD yA a.sec,iA a.rights,iA (min a.cls most),zD iA a.lim,iA a.req,iA a.ses,iA a.rate,iA a.burst]:=rfl;rw[hAG]at *; generalize hf:cT l v.id=fv at *;generalize htw:TB l v.id=tw at *;generalize hok:GK l=ok at *;generalize kX l v.cls=cn at *;cases ok
 ·refine⟨[],1,⟨zB,λ_=>rfl⟩,⟨zYe _,zYe _⟩,?_,?_⟩
  ·clear hpl hreg p5;refine eM call286 λF hF=>?_
   refine zU p2 ?_;exact zJ
  ·clear hpl hreg p5;exact yG
 by_cases h1:0<=v.id/\v.id<=4294967295
 case neg=>
  refine⟨[],8,⟨zB,λ_=>rfl⟩,⟨zYe _,zYe _⟩,?_,?_⟩
  ·clear hpl hreg p5
   by_cases g1:0<=v.id<;>((refine eM call286 λF hF=>?_);((refine zU p2 ?_));exact zJ)
  ·clear hpl hreg p5
   by_cases g1:0<=v.id<;>(exact yG)
 obtain⟨h1,h2⟩:=h1;generalize hmm:min a.cls most=mm at *;by_cases h3:0<=v.cls/\v.cls<=mm
 case neg=>
  refine⟨[],17,⟨zB,λ_=>rfl⟩,⟨zYe _,zYe _⟩,?_,?_⟩
  ·clear hpl hreg p5
   by_cases g1:0<=v.cls<;>((refine eM call286 λF hF=>?_);((refine zU p2 ?_));exact zJ)
  ·clear hpl hreg p5;subst hmm
   by_cases g1:0<=v.cls<;>(exact yG)
 obtain⟨h3,h4⟩:=h3;have hpl:=hpl rfl;have hp5:=p5 h3 zB;clear p5;cases tw
 case true=>
  obtain⟨hk,hid⟩:=hpl.1 rfl;have hy:=zM vT l k hk;refine⟨[],11,⟨zB,λ_=>rfl⟩,⟨zYe _,zYe _⟩,?_,?_⟩
  ·clear hreg hpl k2 k3;generalize l.getD k default=x at *;refine eM call286 λF hF=>?_
   refine yQ (wZ p2 p3) ?_;exact zJ
  ·clear hpl hreg;subst hmm;exact yG
 have hne:∀hk:k<l.length,(l.getD k default).id≠v.id:=λhk e=>by
  have:=hpl.2 ⟨hk,e⟩;cases this
 clear hpl;have hyl:=yM iA a.lim v.cls h3 zB;have hreg:=hreg rfl h1 h2 h3 h4 rfl;generalize a.lim.getD v.cls.toNat default=lim at *;by_cases h5:lim<=cn
 ·refine⟨[],14,⟨zB,λ_=>rfl⟩,⟨zYe _,zYe _⟩,?_,?_⟩
  ·clear hreg k2 k3;by_cases hk:k<l.length
   ·have hy:=zM vT l k hk;have hne:=hne hk;generalize l.getD k default=x at *;refine eM call286 λF hF=>?_
    refine yQ (aB p2 p3 p4 hp5) ?_;exact zJ
   ·clear hne;refine eM call286 λF hF=>?_
    refine yQ (aB p2 p3 p4 hp5) ?_;exact zJ
  ·clear hreg hne k2 k3;subst hmm;exact yG
 by_cases h6:l.length<8
 case neg=>
  refine⟨[],10,⟨zB,λ_=>rfl⟩,⟨zYe _,zYe _⟩,?_,?_⟩
  ·clear hreg k2 k3;by_cases hk:k<l.length
   ·have hy:=zM vT l k hk;have hne:=hne hk;generalize l.getD k default=x at *;refine eM call286 λF hF=>?_
    refine yQ (aB p2 p3 p4 hp5) ?_;exact zJ
   ·clear hne;refine eM call286 λF hF=>?_
    refine yQ (aB p2 p3 p4 hp5) ?_;exact zJ
  ·clear hreg hne k2 k3;subst hmm;exact yG
 refine⟨l.take k++v::l.drop k,0,⟨zB,λh=>absurd rfl h⟩,⟨by simp;omega,by simp;omega⟩,hreg zB h6,?_⟩;clear hok htw hreg hne p2 p3 p4 hp5;subst hmm;exact yG
section
variable {b:Frame} {a:Act} {k:List Item} {cs:List Frame} {w:World} {P:Program}
theorem jO {c:Code}:step P (lone (b.atR a (.code (.scope c)::k)) cs w)= .next (lone (b.atR a (.code c:: .inScope c::k)) cs w):=
 step_lone_go (by simp[stepG,stepG.exec,Frame.atR])
theorem MD {c:Code}:step P (lone (b.atR a (.inScope c::k)) cs w)= .next (lone (b.atR a k) cs w):=
 step_lone_go (by simp[stepG,stepG.exec,Frame.atR])
end
section
variable {F:Fence} {n:Nat} {P:Program} {Q:Exit->Act->World->Prop} {a:Act} {w:World}
theorem AR {c:Code} (h:c.wpIn F n P (Exit.noGoto Q) a w):(Code.scope c).wpIn F n P Q a w:=by
 intro b k cs hro hb hr;have h0:(lone (b.atR a (.code (.scope c)::k)) cs w).fenced P F:=fenced_calm hb hr rfl;obtain⟨e,a₁,w₁,hq,harr⟩:=h b (.inScope c::k) cs hro hb hr
 cases e with
 |normal=>exact⟨.normal,a₁,w₁,hq,.head h0 jO (StepsIn.trans harr (.one (fenced_calm hb hr rfl) MD))⟩
 | exit id=>
  have hx:exitTo id (.inScope c::k)=exitTo id k:=by simp[exitTo]
  exact⟨.exit id,a₁,w₁,hq,λk' hk=> .head h0 jO (harr.1 k' (by rw[hx];exact hk)),
   λhr' hk=>let ⟨k₁,h1,h2⟩:=harr.2 hr' (by rw[hx];exact hk);⟨k₁,h1,.head h0 jO h2⟩⟩
 |goto l=>exact hq.elim
 |ret=>exact⟨_,a₁,w₁,hq,.of_steps (.one h0 jO) harr⟩
 |panic ch=>exact⟨_,a₁,w₁,hq,.of_steps (.one h0 jO) harr⟩
 |outgrown=>exact⟨_,a₁,w₁,hq,.of_steps (.one h0 jO) harr⟩
end
section
variable {P:Program} {K0:List Nat} {F:Fr K0} {m:Nat} {Q:Exit->St->Prop} {st:St}
def noG (Q:Exit->St->Prop):Exit->St->Prop
 | .goto _,_=>False
 |e,s=>Q e s
theorem vH {c:Code} (h:uG P F m c st (noG Q)):uG P F m (.scope c) st Q:=⟨λa w H=>
 AR (Code.wpIn_mono (λe a' w' ⟨s,h1,h2⟩=>by
  cases e with
  |goto l=>exact h1.elim
  |_=>exact⟨s,h1,h2⟩) (h.run a w H))⟩
theorem ZY {c:Code} (K ts:List Nat) (st0 st1 st2:St) (hK:K0.all (K.contains ·)=true) (he:restr K ts st=st0)
  (h0:uG P F m c st0 (λe s=>match e with| .normal=>restr K ts s=st1|e=>Q e s))
  (h1:uG P F m c st1 (λe s=>match e with| .normal=>restr K ts s=st2|e=>Q e s))
  (h2:uG P F m c st2 (λe s=>match e with| .normal=>False|e=>Q e s)):uG P F m (.loop c) st Q:=by
 refine vA (λn s=>(n=2/\s=st0)∨(n=1/\s=st1)∨(n=0/\s=st2)) 2 K ts hK (.inl ⟨rfl,he⟩) ?_;rintro n s (⟨rfl,rfl⟩|⟨rfl,rfl⟩|⟨rfl,rfl⟩)
 ·refine⟨λa w H=>Code.wpIn_mono (λe a' w' ⟨s,q1,q2⟩=>?_) (h0.run a w H)⟩
  cases e with
  |normal=>exact⟨s,⟨1,zB,.inr (.inl ⟨rfl,q1⟩)⟩,q2⟩
  |_=>exact⟨s,q1,q2⟩
 ·refine⟨λa w H=>Code.wpIn_mono (λe a' w' ⟨s,q1,q2⟩=>?_) (h1.run a w H)⟩
  cases e with
  |normal=>exact⟨s,⟨0,zB,.inr (.inr ⟨rfl,q1⟩)⟩,q2⟩
  |_=>exact⟨s,q1,q2⟩
 ·refine⟨λa w H=>Code.wpIn_mono (λe a' w' ⟨s,q1,q2⟩=>?_) (h2.run a w H)⟩
  cases e with
  |normal=>exact q1.elim
  |_=>exact⟨s,q1,q2⟩
theorem vI {l:Nat} (h:Q .normal st):uG P F m (.label l) st Q:=⟨λ_ _ H=>wpIn_label ⟨st,h,H⟩⟩
end
theorem zS1 (N:Nat) (h1:1<=N) (h2:N<=1000000):zN 305 [.s (.slice none 0 0),iA N] [] (.ref 1001 0 0) [(1001,.arr 2 [] true)]:=by
 have hnx:(N:Int)-(0-0)=(N:Int):=by omega
 have hn3:(N:Int)-(0-((0:Nat):Int))=(N:Int):=by omega
 refine eM call305 λF hF=>?_
 (repeat' (first|refine WS ?_|refine SG (I2 (λhc=>?_) (λhc=>?_))|refine SG (λhc=>?_)|(refine zE ?_;first|(refine xI (NH tok rfl rfl rfl) rfl ?_)|(refine jN ?_;refine xI (zA9 tok rfl rfl rfl rfl rfl) rfl ?_)|(refine zPt tok rfl rfl rfl rfl rfl rfl rfl rfl rfl rfl rfl rfl rfl rfl (by first|exact hnx|exact hn3) h1 zB rfl rfl rfl ?_)|(refine jN ?_;refine zC2 tok rfl rfl rfl rfl rfl rfl rfl rfl ?_))|(first|refine zE0 0 22 1001 rfl rfl rfl ?_|first|refine SR ?_|refine SK (I2 (λhc=>?_) (λhc=>?_))|refine SK (λhc=>?_)|fail)|fail))
 exact zL [1001] rfl rfl rfl rfl
theorem zNu:zN 305 [.s (.slice none 0 0),iA 0] [] (.s (.slice none 0 0)) []:=by
 refine eM call305 λF hF=>?_
 (repeat' (first|refine qB ?_|refine xO (λhc=>?_) (λhc=>?_)|refine wB (λhc=>?_)|(refine zE ?_;first|(refine xI (NH tok rfl rfl rfl) rfl ?_))|fail))
 exact zL [] rfl rfl rfl rfl
theorem zId (a b:List Vh) (ha:a.length<=1000) (hb:b.length<=1000):zN 288 [.sl false [zD vT a,zD vT b]] [] (zD vT (a++b)) []:=by
 have hla:=zA vT a;have hlb:=zA vT b;rw[show zD vT (a++b)= .sl false (a.map vT++b.map vT) by unfold zD;rw[zYc]];have hsa:zD vT a= .sl false (a.map vT):=rfl;have hsb:zD vT b= .sl false (b.map vT):=rfl;rw[hsa,hsb];have hhA:∀y,(a.map vT)[0]? =some y->y.cells.length=2:=xT _ _ (λ_=>rfl);have hhB:∀y,(b.map vT)[0]? =some y->y.cells.length=2:=xT _ _ (λ_=>rfl);generalize a.map vT=A at *;generalize b.map vT=B at *;clear hsa hsb;have hyA:([AV.sl false A,.sl false B]:List AV)[(0:Int).toNat]? =some (.sl false A):=rfl;have hyB:([AV.sl false A,.sl false B]:List AV)[(0+1:Int).toNat]? =some (.sl false B):=rfl;have hl2:([AV.sl false A,.sl false B]:List AV).length=2:=rfl;generalize [AV.sl false A,.sl false B]=X at *;refine eM call288 λF hF=>?_
 refine WW ?_;refine ZY [] [3,11,0,9,10] ⟨[(3,iA 0),(11,iA 0),(0,.sl false X),(9,.sl false X),(10,iA X.length)],[]⟩ ⟨[(3,iA (0+(A.length:Int))),(11,iA (0+1)),(0,.sl false X),(9,.sl false X),(10,iA X.length)],[]⟩ ⟨[(3,iA (0+(A.length:Int)+(B.length:Int))),(11,iA (0+1+1)),(0,.sl false X),(9,.sl false X),(10,iA X.length)],[]⟩ rfl rfl ?_ ?_ ?_
 ·(refine WW ?_)
  rfl
 ·(refine WW ?_)
  rfl
 by_cases hN:A.length+B.length=0
 ·have c0:=zNu;rw[show iA 0=iA (0+(A.length:Int)+(B.length:Int)) by rw[show(0:Int)+(A.length:Int)+(B.length:Int)=0 by omega]]at c0
  (repeat' (first|refine qB ?_|refine xO (λhc=>?_) (λhc=>?_)|refine wB (λhc=>?_)|(refine zE ?_;refine wD ?_;(refine uQ 305 ?_;first|refine xI (wG c0 rfl rfl rfl rfl rfl) rfl ?_|refine uN (wG c0 rfl rfl rfl rfl rfl) rfl rfl rfl ?_|refine aN (wG c0 rfl rfl rfl rfl rfl) rfl rfl rfl ?_))|(refine zE ?_;first|refine SM ?_)|fail))
  refine xC 6 1001 2 rfl rfl rfl ?_;refine ZY [1001] [6,27,25,26] ⟨[(6,.ref 1001 0 0),(27,iA 0),(25,.sl false X),(26,iA X.length)],[(1001,.arr 2 [] true)]⟩ ⟨[(6,.ref 1001 0 A.length),(27,iA (0+1)),(25,.sl false X),(26,iA X.length)],[(1001,.arr 2 A false)]⟩ ⟨[(6,.ref 1001 0 (A++B).length),(27,iA (0+1+1)),(25,.sl false X),(26,iA X.length)],[(1001,.arr 2 (A++B) true)]⟩ rfl rfl ?_ ?_ ?_
  ·(repeat' (first|refine qB ?_|refine xO (λhc=>?_) (λhc=>?_)|refine wB (λhc=>?_)|(refine zE ?_;first|(refine yV ?_;first|refine wO tok rfl rfl rfl rfl rfl rfl rfl hhA rfl rfl rfl zB rfl ?_|refine qE tok rfl rfl rfl rfl rfl rfl rfl rfl rfl rfl rfl hhB zB rfl ?_))|fail))
   rfl
  ·(repeat' (first|refine qB ?_|refine xO (λhc=>?_) (λhc=>?_)|refine wB (λhc=>?_)|(refine zE ?_;first|(refine yV ?_;first|refine wO tok rfl rfl rfl rfl rfl rfl rfl hhA rfl rfl rfl zB rfl ?_|refine qE tok rfl rfl rfl rfl rfl rfl rfl rfl rfl rfl rfl hhB zB rfl ?_))|fail))
   rfl
  ·(refine WW ?_)
   exact zI [] rfl rfl (zY0 (AV.sl false) (by rw[zY2,zX7])) rfl
 ·have c0:=zS1 (A.length+B.length) zB zB;rw[show((A.length+B.length:Nat):Int)=0+(A.length:Int)+(B.length:Int) by omega]at c0
  (repeat' (first|refine qB ?_|refine xO (λhc=>?_) (λhc=>?_)|refine wB (λhc=>?_)|(refine zE ?_;refine wD ?_;(refine uQ 305 ?_;first|refine xI (wG c0 rfl rfl rfl rfl rfl) rfl ?_|refine uN (wG c0 rfl rfl rfl rfl rfl) rfl rfl rfl ?_|refine aN (wG c0 rfl rfl rfl rfl rfl) rfl rfl rfl ?_))|(refine zE ?_;first|refine SM ?_)|fail))
  refine ZY [1001] [6,27,25,26] ⟨[(6,.ref 1001 0 0),(27,iA 0),(25,.sl false X),(26,iA X.length)],[(1001,.arr 2 [] true)]⟩ ⟨[(6,.ref 1001 0 A.length),(27,iA (0+1)),(25,.sl false X),(26,iA X.length)],[(1001,.arr 2 A false)]⟩ ⟨[(6,.ref 1001 0 (A++B).length),(27,iA (0+1+1)),(25,.sl false X),(26,iA X.length)],[(1001,.arr 2 (A++B) true)]⟩ rfl rfl ?_ ?_ ?_
  ·(repeat' (first|refine qB ?_|refine xO (λhc=>?_) (λhc=>?_)|refine wB (λhc=>?_)|(refine zE ?_;first|(refine yV ?_;first|refine wO tok rfl rfl rfl rfl rfl rfl rfl hhA rfl rfl rfl zB rfl ?_|refine qE tok rfl rfl rfl rfl rfl rfl rfl rfl rfl rfl rfl hhB zB rfl ?_))|fail))
   rfl
  ·(repeat' (first|refine qB ?_|refine xO (λhc=>?_) (λhc=>?_)|refine wB (λhc=>?_)|(refine zE ?_;first|(refine yV ?_;first|refine wO tok rfl rfl rfl rfl rfl rfl rfl hhA rfl rfl rfl zB rfl ?_|refine qE tok rfl rfl rfl rfl rfl rfl rfl rfl rfl rfl rfl hhB zB rfl ?_))|fail))
   rfl
  ·(refine WW ?_)
   exact zI [] rfl rfl (zY0 (AV.sl false) (by rw[zY2,zX7])) rfl
def rmV (l:List Vh) (id:Int):List Vh:=l.filter λv=>decide (v.id≠id)
theorem zIe {l:List Vh} {id:Int} (h:TB l id=false):rmV l id=l:=by
 unfold rmV;refine yC9.2 λx hx=>zX8 λe=>?_
 have:=yAx.1 h x hx;exact this (by rw[zZg];exact e)
theorem zIf {l:List Vh} {id:Int} (hv:GK l=true) {k:Nat} (hk:k<l.length) (he:(l.getD k default).id=id):rmV l id=l.take k++l.drop (k+1):=by
 have e0:l.getD k default=l[k]:=by simp[List.getD,hk]
 have e1:l=l.take k++l[k]::l.drop (k+1):=by rw[List.getElem_cons_drop,yA9]
 have hlt:=zIc hv
 have h1:rmV (l.take k) id=l.take k:=by
  refine yC9.2 λx hx=>zX8 λe=>?_
  obtain⟨i,hi,rfl⟩:=yAa hx;simp only[zYo]at hi;have q1:=hlt k hk i zB;have q2:l.getD i default=l[i]:=by simp[List.getD,show i<l.length by omega]
  rw[List.getElem_take]at e;rw[q2,e,he]at q1;omega
 have h2:rmV (l.drop (k+1)) id=l.drop (k+1):=by
  refine yC9.2 λx hx=>zX8 λe=>?_
  obtain⟨i,hi,rfl⟩:=yAa hx;simp only[zY4]at hi;have q1:=hlt (k+1+i) zB k zB;have q2:l.getD (k+1+i) default=l[k+1+i]:=by simp[List.getD,show k+1+i<l.length by omega]
  rw[List.getElem_drop]at e;rw[q2,e,he]at q1;omega
 conv=>lhs;rw[e1]
 unfold rmV at h1 h2⊢;rw[yBq,List.filter_cons,zX0 (by rw[<-e0,he];simp),h1,h2]
theorem zDz (l:List Vh) (hn:l.length<=1000000) (id:Int):yR [zD vT l,iA id] [] (if GK l=true then(if(rmV l id).length=l.length then .tup [.sl false [],iA 12]else .tup [zD vT (rmV l id),iA 0])else .tup [.sl false [],iA 1]) []:=yG
theorem EL (l:List Vh) (hn:l.length<=1000) (id:Int):∃(l':List Vh) (e:Int),((0<=e/\e<=100)/\(e≠0->l'=[]))/\l'.length<=l.length/\zN 264 [zD vT l,iA id] [] (.tup [zD vT l',iA e]) []/\yR [zD vT l,iA id] [] (.tup [zD vT l',iA e]) []:=by
 have hll:=zA vT l;have p2:=VL l zB;have c:=zDz l zB id;obtain⟨k,k1,k2,k3⟩:=EP l id;have p3:=PN l id zB k k1 k2 k3
 cases hv:GK l with
 |false=>
  rw[hv]at p2 c;rw[zX0 zYk]at c;refine⟨[],1,⟨zB,λ_=>rfl⟩,by simp,?_,c⟩;refine eM call264 λF hF=>?_
  refine WLo p2 ?_;exact zJ
 |true=>
 have hpl:=UZ (id:=id) hv k1 k2 k3;rw[hv]at p2 c;rw[zX1 rfl]at c
 cases hh:TB l id with
 | false=>
  rw[zX1 (by rw[zIe hh])]at c;refine⟨[],12,⟨zB,λ_=>rfl⟩,by simp,?_,c⟩
  have hne:∀hk:k<l.length,(l.getD k default).id≠id:=λhk e=>by
   rw[hpl.2 ⟨hk,e⟩]at hh;cases hh
  clear hpl k2 k3 c;by_cases hk:k<l.length
  ·have hy:=zM vT l k hk;have hne:=hne hk;generalize l.getD k default=x at *;refine eM call264 λF hF=>?_
   refine LO (wZ p2 p3) ?_;exact zJ
  ·clear hne;refine eM call264 λF hF=>?_
   refine LO (wZ p2 p3) ?_;exact zJ
 |true=>
  obtain⟨hk,he⟩:=hpl.1 hh;have er:=zIf hv hk he;have hlen:(rmV l id).length=l.length-1:=by rw[er];simp;omega
  rw[zX0 zB]at c;refine⟨rmV l id,0,⟨zB,λh=>absurd rfl h⟩,zB,?_,c⟩;have c4:=zId (l.take (k:Int).toNat) (l.drop ((k:Int)+1).toNat) wQ wQ;rw[show l.take (k:Int).toNat++l.drop ((k:Int)+1).toNat=rmV l id by rw[er];congr 1]at c4;have hy:=zM vT l k hk;clear hpl k2 k3 c er hlen;generalize rmV l id=l' at *;generalize l.getD k default=x at *;refine eM call264 λF hF=>?_
  refine LO (fB p2 p3 c4) ?_;exact zJ
theorem zQl (t:Tk):zN 302 [xB t] [] (bA (!t.used)) []:=by
 obtain⟨u,a,b,c,d,e⟩:=t
 cases u with
 |true=>
  rw[show xB ⟨true,a,b,c,d,e⟩= .agg [bA true,zD yA a,iA b,iA c,iA d,iA e]from rfl];refine eM call302 λF hF=>?_
  refine WW ?_;exact zJ
 |false=>
  rw[show xB ⟨false,a,b,c,d,e⟩= .agg [bA false,zD yA a,iA b,iA c,iA d,iA e]from rfl];refine eM call302 λF hF=>?_
  refine WW ?_;exact zJ
theorem zWc (l:List Tk) (hn:l.length<=1000000) (k:Nat) (hk:k<l.length) (h1:∀i,i<k->(l.getD i default).used=true) (h2:(l.getD k default).used=false):zN 301 [zD xB l,.fn 302 []] [] (iA k) []:=by
 have hl:=zA xB l;refine eM call301 λF hF=>?_
 refine WW ?_;refine xV (l.length) [] [] [0,1,7] [8,0,1,7] rfl (λi T U zs=>(i<=k)/\zs=⟨(8,iA i)::T,U⟩) ?_;(conv=>whnf);refine⟨?_,?_,?_⟩
 ·exact⟨zYe _,rfl⟩
 ·rintro i st hi ⟨hik,rfl⟩;have hy:=zM xB l i hi;have c:=zQl (l.getD i default);by_cases hie:i=k
  ·subst hie;rw[h2]at c;generalize l.getD i default=t at *;refine zU c ?_;exact zJ
  ·rw[h1 i zB]at c;generalize l.getD i default=t at *;refine zU c ?_;exact⟨zB,rfl⟩
 ·rintro st ⟨hik,rfl⟩;exfalso;omega
def BF (life now:Int):Int:=if 0<life then now+life else 0
theorem zNv (l:List Tk) (k:Nat) (t:Tk) (n:Nat) (hn:n=l.length):zD xB (l.set k t)= .sl false (((l.map xB).set k (xB t)).take n):=by
 rw[<-zZ9,zYb wQ];rfl
def T0K (l o:List Tk):Prop:=(l.getD 0 default).used=true->(l.getD 0 default).par= -1->o.getD 0 default=l.getD 0 default
def zD0 (l:List Tk) (s:Int) (j:Nat):Tk:=if deF l j s=true then frT else l.getD j default
def UO (l:List Tk) (s:Int) (n:Nat):List Tk:=(List.range l.length).map λj=>if j<n then zD0 l s j else l.getD j default
theorem RX (l:List Tk) (s:Int) (n:Nat):(UO l s n).length=l.length:=by simp[UO]
theorem zIg (l:List Tk) (s:Int):UO l s 0=l:=by
 apply zZf;intro i;unfold UO;rw[zX4];by_cases h:i<l.length
 ·rw[zYx h];simp[h,List.getD]
 ·rw[zYt (l:=List.range l.length) wQ,zYt zB];rfl
theorem zS2 (l:List Tk) (s:Int) (n:Nat) (h:n<l.length):(UO l s n)[n]? =some (l.getD n default):=by
 unfold UO;rw[zX4,zYx h];simp
theorem zIh (l:List Tk) (s:Int) (n:Nat) (h:n<l.length):UO l s (n+1)=(UO l s n).set n (zD0 l s n):=by
 apply zZf;intro i;rw[zZ7];unfold UO;rw[zX4,zX4,zX2,zZk];by_cases hi:i<l.length
 ·rw[zYx hi];by_cases e:n=i
  ·subst e;rw[zX1 rfl,zX1 hi];simp
  ·rw[zX0 e];simp only[Option.map_some];by_cases h1:i<n
   ·rw[zX1 h1,zX1 zB]
   ·rw[zX0 h1,zX0 zB]
 ·rw[zYt (l:=List.range l.length) wQ,zX0 zB];rfl
theorem zD1 (l:List Tk) (hb:GL l) (hv:ME l=true) (s:Int) (hs:1<=s/\s<8) (h8:l.length=8) (hu:(l.getD s.toNat default).used=true):zN 261 [zD xB l,iA s] [] (.tup [zD xB (UO l s l.length),iA 0]) []:=by
 have c1:=VM l;rw[hv]at c1;have c2:=WE l hb;have hll:=zA xB l;have hy:=yM xB l s zB zB;have hd:=λj=>zJg l j s
 have fc:=zAh;generalize l.getD s.toNat default=t at *;obtain⟨u,a1,a2,a3,a4,a5⟩:=t;dsimp only at hu;subst hu;rw[show xB ⟨true,a1,a2,a3,a4,a5⟩= .agg [bA true,zD yA a1,iA a2,iA a3,iA a4,iA a5]from rfl]at hy;refine eM call261 λF hF=>?_
 refine yQ (wZ c1 c2) ?_;refine zP (l.length) [1001] [] [0,1,6,26] [27,0,1,6,26] rfl (λi T U=>⟨(27,iA i)::T,(1001,.arr 6 ((UO l s i).map xB) false)::U⟩) ?_;(conv=>whnf);refine⟨by(rw[zIg];rfl),?_,?_⟩
 ·intro i hi;have hyi:((UO l s i).map xB)[i]? =some (xB (l.getD i default)):=by rw[zX4,zS2 l s i hi];rfl
  have c3:=hd i;have hrl:i<((UO l s i).map xB).length:=by rw[zX2,RX];exact hi
  rw[zIh l s i hi,zZ9];have hset:(l.getD i default)=(l.getD i default):=rfl
  have hsame:((UO l s i).map xB).set i (xB (l.getD i default))=(UO l s i).map xB:=by
   rw[zYq]at hyi;obtain⟨h,e⟩:=hyi;rw[<-e,yC0]
  unfold zD0
  cases hde:deF l i s with
  |true=>
   rw[hde]at c3;rw[zX1 rfl];generalize (UO l s i).map xB=xs at *;generalize l.getD i default=ti at *;clear hsame hset hd c1 c2;refine yQ (wZ c3 fc) ?_;rfl
  |false=>
   rw[hde]at c3;rw[zX0 zYk,hsame];generalize (UO l s i).map xB=xs at *;clear hsame hset hd c1 c2 fc;refine zU c3 ?_;rfl
 ·have hle:=RX l s l.length;rw[show zD xB (UO l s l.length)= .sl false (((UO l s l.length).map xB).take (l.map xB).length) by rw[zYb (by simp[hle])];rfl];generalize (UO l s l.length).map xB=xs at *;refine WW ?_;exact zJ
def GJ (l:List Tk) (k:Nat) (e:Int) (t:Tk):List Tk:=if e=0 then l.set k t else []
theorem zIi {P:Nat->Prop}:∀n,P n->∃m,m<=n/\P m/\∀k,k<m->¬P k:=by
 intro n
 induction n using Nat.strongRecOn with
 |_ n ih=>
  intro h;by_cases hx:∃k,k<n/\P k
  ·obtain⟨k,h1,h2⟩:=hx;obtain⟨m,h3,h4,h5⟩:=ih k h1 h2;exact⟨m,zB,h4,h5⟩
  ·exact⟨n,zX6 _,h,λk h1 h2=>hx ⟨k,h1,h2⟩⟩
theorem zS3 (l:List Tk) (hn:l.length<=1000000) (h1:∀i,i<l.length->(l.getD i default).used=true):zN 301 [zD xB l,.fn 302 []] [] (iA (-1)) []:=by
 have hl:=zA xB l;refine eM call301 λF hF=>?_
 refine WW ?_;refine zP (l.length) [] [] [0,1,7] [8,0,1,7] rfl (λi T U=>⟨(8,iA i)::T,U⟩) ?_;(conv=>whnf);refine⟨by rfl,?_,?_⟩
 ·intro i hi;have hy:=zM xB l i hi;have c:=zQl (l.getD i default);rw[h1 i hi]at c;generalize l.getD i default=t at *;refine zU c ?_;rfl
 ·(refine WW ?_)
  exact zJ
def zIj (l:List Tk) (p R c life now:Int):Prop:=∃(k:Nat) (e:Int),(0<=e/\e<=20)/\(k=0∨k<l.length)/\(e=0->ME l=true/\0<=p/\p<l.length/\(l.getD k default).used=false)/\∀sec:List Int,(sec.length:Int)=8->
 zN 283 [zD xB l,iA p,iA R,iA c,iA life,zD yA sec,iA now] [] (.tup [zD xB (GJ l k e ⟨true,sec,p,R,c,BF life now⟩),iA k,iA e]) []/\
 yR [zD xB l,iA p,iA R,iA c,iA life,zD yA sec,iA now] [] (.tup [zD xB (GJ l k e ⟨true,sec,p,R,c,BF life now⟩),iA k,iA e]) []
theorem dE {l:List Tk} {p R c life now:Int} (e:Int) (h1:1<=e) (h2:e<=20) (h:∀sec:List Int,(sec.length:Int)=8->zN 283 [zD xB l,iA p,iA R,iA c,iA life,zD yA sec,iA now] [] (.tup [zD xB [],iA 0,iA e]) []/\yR [zD xB l,iA p,iA R,iA c,iA life,zD yA sec,iA now] [] (.tup [zD xB [],iA 0,iA e]) []):zIj l p R c life now:=
 ⟨0,e,⟨zB,h2⟩,.inl rfl,λh0=>by omega,λsec hs=>by
  have hd:GJ l 0 e ⟨true,sec,p,R,c,BF life now⟩=[]:=by unfold GJ;rw[zX0 zB]
  rw[hd]
  exact h sec hs⟩
theorem EM (l:List Tk) (hb:GL l) (p R c life now:Int):zIj l p R c life now:=by
 have hn:=hb.n;have hll:=zA xB l;have c1:=VM l;have r1:=LI l;rw[<-zI0]at r1
 cases hv:ME l with
 | false=>
  rw[hv]at c1 r1
  exact dE 1 zB zB λsec hs=>⟨by
   have hls:=zA yA sec;refine eM call283 λF hF=>?_
   refine zU c1 ?_
   exact zJ,by
   have hls:=zA yA sec
   exact yG⟩
 |true=>
 rw[hv]at c1 r1;have h8:(l.length:Int)=8:=by unfold ME at hv;rw[zYh,zX9]at hv;exact hv.1
 by_cases hn0:0<=now
 case neg=>
  exact dE 1 zB zB λsec hs=>⟨by
   have hls:=zA yA sec;refine eM call283 λF hF=>?_
   refine zU c1 ?_
   exact zJ,by
   have hls:=zA yA sec
   exact yG⟩
 by_cases hn1:now<=1073741824
 case neg=>
  exact dE 1 zB zB λsec hs=>⟨by
   have hls:=zA yA sec;refine eM call283 λF hF=>?_
   refine zU c1 ?_
   exact zJ,by
   have hls:=zA yA sec
   exact yG⟩
 have c2:=zAg l p;by_cases hp0:0<=p
 case neg=>
  rw[show fT l p=false by unfold fT;rw[zYa (λh=>hp0 h.1)];rfl]at c2
  exact dE 12 zB zB λsec hs=>⟨by
   have hls:=zA yA sec;refine eM call283 λF hF=>?_
   refine yQ (wZ c1 c2) ?_
   exact zJ,by
   have hls:=zA yA sec
   exact yG⟩
 by_cases hp1:p<l.length
 case neg=>
  rw[show fT l p=false by unfold fT;rw[zYa (λh=>hp1 h.2)];rfl]at c2
  exact dE 12 zB zB λsec hs=>⟨by
   have hls:=zA yA sec;refine eM call283 λF hF=>?_
   refine yQ (wZ c1 c2) ?_
   exact zJ,by
   have hls:=zA yA sec
   exact yG⟩
 have hy:=yM xB l p hp0 hp1;have hus:fT l p=(l.getD p.toNat default).used:=by unfold fT;rw[zX8 ⟨hp0,hp1⟩,zYp]
 rw[hus]at c2;have c3:=DD R (l.getD p.toNat default).rights;have r3:=zEf R (l.getD p.toNat default).rights;have c4:=zCi (BF life now) (l.getD p.toNat default).til;have r4:=zJv (BF life now) (l.getD p.toNat default).til
 have hun:BF life now=if 0<life then now+life else 0:=rfl
 generalize BF life now=un at *;clear hus;generalize l.getD p.toNat default=t at *;obtain⟨u,t1,t2,t3,t4,t5⟩:=t;rw[show∀u,xB ⟨u,t1,t2,t3,t4,t5⟩= .agg [bA u,zD yA t1,iA t2,iA t3,iA t4,iA t5]from λ_=>rfl]at hy;dsimp only at*
 cases u with
 | false=>
  exact dE 12 zB zB λsec hs=>⟨by
   have hls:=zA yA sec;refine eM call283 λF hF=>?_
   refine yQ (wZ c1 c2) ?_
   exact zJ,by
   have hls:=zA yA sec
   exact yG⟩
 |true=>
 cases hw:wiF R t3 with
 | false=>
  rw[hw]at c3 r3
  exact dE 8 zB zB λsec hs=>⟨by
   have hls:=zA yA sec;refine eM call283 λF hF=>?_
   refine yQ (fB c1 c2 c3) ?_
   exact zJ,by
   have hls:=zA yA sec
   exact yG⟩
 |true=>
 rw[hw]at c3 r3;by_cases hc0:0<=c
 case neg=>
  exact dE 8 zB zB λsec hs=>⟨by
   have hls:=zA yA sec;refine eM call283 λF hF=>?_
   refine yQ (fB c1 c2 c3) ?_
   exact zJ,by
   have hls:=zA yA sec
   exact yG⟩
 by_cases hc1:c<=t4
 case neg=>
  exact dE 8 zB zB λsec hs=>⟨by
   have hls:=zA yA sec;refine eM call283 λF hF=>?_
   refine yQ (fB c1 c2 c3) ?_
   exact zJ,by
   have hls:=zA yA sec
   exact yG⟩
 by_cases hl0:0<=life
 case neg=>
  exact dE 8 zB zB λsec hs=>⟨by
   have hls:=zA yA sec;refine eM call283 λF hF=>?_
   refine yQ (fB c1 c2 c3) ?_
   exact zJ,by
   have hls:=zA yA sec
   exact yG⟩
 by_cases hl1:life<=600
 case neg=>
  exact dE 8 zB zB λsec hs=>⟨by
   have hls:=zA yA sec;refine eM call283 λF hF=>?_
   refine yQ (fB c1 c2 c3) ?_
   exact zJ,by
   have hls:=zA yA sec
   exact yG⟩
 cases hla:laF un t5 with
 | true=>
  rw[hla]at c4 r4;by_cases h0:0<life
  ·rw[zX1 h0]at hun;subst hun
   exact dE 8 zB zB λsec hs=>⟨by
    have hls:=zA yA sec;refine eM call283 λF hF=>?_
    refine yQ (aB c1 c2 c3 c4) ?_
    exact zJ,by
    have hls:=zA yA sec
    exact yG⟩
  ·rw[zX0 h0]at hun;subst hun
   exact dE 8 zB zB λsec hs=>⟨by
    have hls:=zA yA sec;refine eM call283 λF hF=>?_
    refine yQ (aB c1 c2 c3 c4) ?_
    exact zJ,by
    have hls:=zA yA sec
    exact yG⟩
 |false=>
 rw[hla]at c4 r4;clear hla hw;by_cases hex:∃k,k<l.length/\(l.getD k default).used=false
 case neg=>
  have hall:∀i,i<l.length->(l.getD i default).used=true:=λi hi=>by
   cases h:(l.getD i default).used with
   |true=>rfl
   |false=>exact absurd ⟨i,hi,h⟩ hex
  have c5:=zS3 l hn hall
  rcases(show(0<life/\BF life now=now+life)∨(¬0<life/\BF life now=0) by unfold BF;by_cases h:0<life;exact .inl ⟨h,zX1 h⟩;exact .inr ⟨h,zX0 h⟩)with⟨h0,hu0⟩|⟨h0,hu0⟩
  ·rw[zX1 h0]at hun;subst hun
   exact dE 10 zB zB λsec hs=>⟨by
    have hls:=zA yA sec;refine eM call283 λF hF=>?_
    refine yQ (zt5 c1 c2 c3 c4 c5) ?_
    exact zJ,by
    have hls:=zA yA sec
    exact yG⟩
  ·rw[zX0 h0]at hun;subst hun
   exact dE 10 zB zB λsec hs=>⟨by
    have hls:=zA yA sec;refine eM call283 λF hF=>?_
    refine yQ (zt5 c1 c2 c3 c4 c5) ?_
    exact zJ,by
    have hls:=zA yA sec
    exact yG⟩
 obtain⟨k0,hk0,hu0⟩:=hex;obtain⟨k,_,⟨hk,hkf⟩,hkm⟩:=zIi (P:=λk=>k<l.length/\(l.getD k default).used=false) k0 ⟨hk0,hu0⟩
 have hbe:∀i,i<k->(l.getD i default).used=true:=λi hi=>by
  cases h:(l.getD i default).used with
  |true=>rfl
  |false=>exact absurd ⟨zB,h⟩ (hkm i hi)
 have c5:=zWc l hn k hk hbe hkf;have c6:=WE l hb;have r6:=zAf l hb;refine⟨k,0,zB,.inr hk,λ_=>⟨hv,hp0,hp1,hkf⟩,λsec hs=>?_⟩;have hd:∀x:Tk,GJ l k 0 x=l.set k x:=λx=>by unfold GJ;rw[zX1 rfl]
 rw[hd];have c7:=vB sec zB;have hls:=zA yA sec;have hyk:=zM xB l k hk;have eS:=zNv l k ⟨true,sec,p,R,c,BF life now⟩ (l.map xB).length hll;rw[eS];clear eS hd;rw[show BF life now=if 0<life then now+life else 0 from rfl];by_cases h0:0<life
 ·rw[zX1 h0]at hun⊢;subst hun;refine⟨?_,?_⟩
  ·clear r1 r3 r4 r6 hbe hkm hkf;generalize l.getD k default=tk at *;refine eM call283 λF hF=>?_
   refine yQ (zt7 c1 c2 c3 c4 c5 c6 c7) ?_;exact zJ
  ·clear c1 c2 c3 c4 c5 c6 c7;exact yG
 ·rw[zX0 h0]at hun⊢;subst hun;refine⟨?_,?_⟩
  ·clear r1 r3 r4 r6 hbe hkm hkf;generalize l.getD k default=tk at *;refine eM call283 λF hF=>?_
   refine yQ (zt7 c1 c2 c3 c4 c5 c6 c7) ?_;exact zJ
  ·clear c1 c2 c3 c4 c5 c6 c7;exact yG
theorem zWd (l:List Tk) (s:Int) (h8:l.length=8):UO l s l.length=frB (λi=>ldF l 9 i s) l 8:=by
 unfold UO frB;apply yBf;intro j hj;have hj:=zYr.1 hj;unfold zD0;rw[zX1 hj,zQp h8];by_cases h:ldF l 9 j s=true
 ·rw[zX1 h,zX1 ⟨zB,h⟩]
 ·rw[zX0 h,zX0 (λk=>h k.2)]
theorem ZZ:GL []:=⟨by simp,λt h=>by simp at h⟩
theorem zS4 {l:List Tk} (hb:GL l) (s:Int) (n:Nat):GL (UO l s n):=by
 refine⟨by rw[RX];exact hb.n,λt ht=>?_⟩
 have hg:∀j,(l.getD j default).sec.length<=1000000:=λj=>by
  by_cases h:j<l.length
  ·exact hb.s _ (by simp[List.getD,h])
  ·rw[show l.getD j default=default by simp[List.getD,h]];exact zYe _
 unfold UO at ht;rw[zZj]at ht;obtain⟨j,_,rfl⟩:=ht;split
 ·unfold zD0;split
  ·exact zYe _
  ·exact hg j
 ·exact hg j
theorem zS5 {l:List Tk} {s:Int} (h1:1<=s) (h8:1<=l.length):T0K l (UO l s l.length):=λhu hp=>by
 have e:deF l 0 s=false:=by
  unfold deF;rw[jC,show fT l 0=true by unfold fT;rw[zX8 ⟨zZ8 0,zB⟩,zYp];exact hu,zZc];rw[show(0:Int).toNat=0 from rfl,hp];rw[jC,show fT l (-1)=false by unfold fT;rw[zYa zB,zZw],zZz];simp;omega
 unfold UO;rw[zX5,zX4,zYx zB,Option.map_some,zZ3,zX1 zB];unfold zD0;rw[show((0:Nat):Int)=0 from rfl,e,zX0 zYk]
theorem EN (l:List Tk) (hb:GL l) (s:Int):∃(o:List Tk) (e:Int),(0<=e/\e<=20)/\GL o/\(e=0->o.length=l.length/\T0K l o)/\zN 261 [zD xB l,iA s] [] (.tup [zD xB o,iA e]) []/\yR [zD xB l,iA s] [] (.tup [zD xB o,iA e]) []:=by
 have hn:=hb.n;have hll:=zA xB l;have c1:=VM l;have r1:=LI l;rw[<-zI0]at r1
 cases hv:ME l with
 | false=>
  rw[hv]at c1 r1;refine⟨[],1,zB,ZZ,λh=>absurd h yZ,?_,?_⟩
  ·(refine eM call261 λF hF=>?_)
   refine zU c1 ?_;exact zJ
  ·exact yG
 |true=>
 rw[hv]at c1 r1;have h8:l.length=8:=by unfold ME at hv;rw[zYh,zX9]at hv;omega
 by_cases h1:1<=s
 case neg=>
  refine⟨[],8,zB,ZZ,λh=>absurd h yZ,?_,?_⟩
  ·(refine eM call261 λF hF=>?_)
   refine zU c1 ?_;exact zJ
  ·exact yG
 by_cases h2:s<8
 case neg=>
  refine⟨[],8,zB,ZZ,λh=>absurd h yZ,?_,?_⟩
  ·(refine eM call261 λF hF=>?_)
   refine zU c1 ?_;exact zJ
  ·exact yG
 have hy:=yM xB l s zB zB
 cases hu:(l.getD s.toNat default).used with
 | false=>
  rw[show xB (l.getD s.toNat default)=NU false (l.getD s.toNat default) by unfold xB NU;rw[hu]]at hy;unfold NU at hy;generalize l.getD s.toNat default=t at *;refine⟨[],12,zB,ZZ,λh=>absurd h yZ,?_,?_⟩
  ·(refine eM call261 λF hF=>?_)
   refine zU c1 ?_;exact zJ
  ·exact yG
 |true=>
  have cr:=zD1 l hb hv s ⟨h1,h2⟩ h8 hu;have b1:=zN5 l s h8;rw[h8]at b1;have b2:=zN6 l hb (λi=>ldF l 9 i s) h8;rw[<-zWd l s h8]at b2;rw[show xB (l.getD s.toNat default)=NU true (l.getD s.toNat default) by unfold xB NU;rw[hu]]at hy;unfold NU at hy;refine⟨UO l s l.length,0,zB,zS4 hb s _,λ_=>⟨RX l s _,zS5 zB zB⟩,cr,?_⟩;clear cr hu;generalize UO l s l.length=l2 at *;generalize gB (λi=>ldF l 9 i s) 8=b at *;generalize l.getD s.toNat default=t at *;exact yG
def RB (r:Rg):xN:= .box [iA r.num,zD yA r.ag.sec,iA r.ag.rights,iA r.ag.cls,zD iA r.ag.lim,iA r.ag.req,iA r.ag.ses,iA r.ag.rate,iA r.ag.burst,zD xB r.tk,zD vT r.vh,iA r.bk.level,iA r.bk.rate,iA r.bk.burst]
def rgT (r:Rg) (l:List Tk):Rg:=⟨r.num,r.ag,l,r.vh,r.bk⟩
theorem zQm (m:Ms) (a:Int) (ha:m.args=[a]):zN 262 [yE m] [] (yE ⟨14,[],[m.kind,a],[]⟩) []:=by
 obtain⟨k,t,ar,d⟩:=m;dsimp only at ha⊢;subst ha;have hl1:([a].map iA).length=1:=rfl;refine eM call262 λF hF=>?_
 refine WL ?_;exact zJ
theorem zS6 {l:List Tk} (h:ME l=true):GL l/\l.length=8:=by
 rw[zI0]at h;have T:=(zTb l).1 h;refine⟨⟨by have:=T.n;omega,λt ht=>?_⟩,T.n⟩;obtain⟨i,hi,rfl⟩:=yAa ht;have hi8:i<8:=by have:=T.n;omega
 have e:l.getD i default=l[i]:=by simp[List.getD,hi]
 cases hu:(l.getD i default).used with
 |false=>
  have:=T.f i hi8 hu;unfold ER at this;rw[zX9]at this;rw[<-e];omega
 |true=>
  have:=(T.s i hi8 hu).1;unfold soF zIt at this;simp only[zYh,zX9]at this;rw[<-e];omega
theorem zS7 {l:List Tk} (hb:GL l) (k:Nat) (e:Int) (t:Tk) (ht:t.sec.length<=1000000):GL (GJ l k e t):=by
 unfold GJ;split
 ·refine⟨by rw[zZm];exact hb.n,λx hx=>?_⟩
  rcases yA8 hx with h|rfl
  ·exact hb.s x h
  ·exact ht
 ·exact ZZ
structure GvB (r:Rg):Prop where
 num:0<=r.num/\r.num<4
 b:GM r
 tv:ME r.tk=true
 n8:r.tk.length=8
 lim:(r.ag.lim.length:Int)=4
 cls:0<=r.ag.cls/\r.ag.cls<=3
 vl:r.vh.length<=8
theorem zIk {r:Rg} (h:gvF r=true):GvB r:=by
 unfold gvF at h;simp only[zYh,zX9]at h;obtain⟨h1,h2,h3,h4,h5,h6⟩:=h;obtain⟨t1,t2⟩:=zS6 h3;have hv:=(zQn.1 h4).1;unfold avF at h2;simp only[zYh,zX9]at h2;obtain⟨⟨a1,a2⟩,a3,a4,a5,a6⟩:=h2;unfold jT at a5;rw[zX9]at a5;exact⟨h1,⟨t1,zB,zB,zB⟩,h3,t2,a2,a5,hv⟩
def rg0:Rg:=⟨0,⟨[],0,0,[],0,0,0,0⟩,[],[],⟨0,0,0⟩⟩
def RY:Ms:=⟨0,[],[],[]⟩
def doR (e:Int):AV:= .tup [uX rg0,yE RY,bA false,iA e]
theorem zWe:GM rg0:=⟨ZZ,zYe _,zYe _,zYe _⟩
theorem cD (e:Int):doR e= .tup [.agg [iA 0,.sl false [],iA 0,iA 0,.sl false [],iA 0,iA 0,iA 0,iA 0,.sl false [],.sl false [],iA 0,iA 0,iA 0],.agg [iA 0,.sl false [],.sl false [],.sl false []],bA false,iA e]:=rfl
theorem XW (r:Rg) (m:Ms) (s now:Int) (sec:List Int) (gv b us:Bool) (c1:zN 258 [uX r] [] (bA gv) []) (c2:zN 119 [yE m] [] (bA b) []) (c3:zN 259 [zD xB r.tk,iA s] [] (bA us) []) (h:gv=false∨b=false∨us=false∨(¬(sec.length:Int)=0/\¬(sec.length:Int)=8)) (hsl:sec.length<=1000):
  zN 236 [uX r,yE m,iA s,iA now,zD yA sec] [] (doR 1) []:=by
 rw[cD];have hls:=zA yA sec;cases gv
 ·(refine eM call236 λF hF=>?_)
  refine zU c1 ?_;exact zJ
 cases b
 ·(refine eM call236 λF hF=>?_)
  refine yQ (wZ c1 c2) ?_;exact zJ
 cases us
 ·(refine eM call236 λF hF=>?_)
  refine yQ (fB c1 c2 c3) ?_;exact zJ
 ·rcases h with h|h|h|⟨h1,h2⟩
  ·cases h
  ·cases h
  ·cases h
  ·(refine eM call236 λF hF=>?_)
   refine yQ (fB c1 c2 c3) ?_;exact zJ
theorem zIl (r:Rg) (m:Ms) (s now:Int) (sec:List Int) (c1:yR [uX r] [] (bA false) []):
 yR [uX r,yE m,iA s,iA now,zD yA sec] [] (doR 1) []:=yG
theorem zIm (r:Rg) (m:Ms) (s now:Int) (sec:List Int) (c1:yR [uX r] [] (bA true) []) (h2:¬m.kind=2) (h3:¬m.kind=3) (h4:¬m.kind=4) (h5:¬m.kind=5):
 yR [uX r,yE m,iA s,iA now,zD yA sec] [] (doR 1) []:=yG
theorem PO (r:Rg) (m:Ms) (s now:Int) (sec:List Int) (n8:r.tk.length=8) (b:Bool) (c1:yR [uX r] [] (bA true) []) (c2:zN 84 [yE m] [] (bA b) []) (hk:m.kind=2∨m.kind=3∨m.kind=4∨m.kind=5)
 (h:b=false∨fT r.tk s=false∨(¬(sec.length:Int)=0/\¬(sec.length:Int)=8)) (hsl:sec.length<=1000):yR [uX r,yE m,iA s,iA now,zD yA sec] [] (doR 1) []:=yG
theorem AS (k a:Int):yR [iA k,iA a] [] (yE ⟨14,[],[k,a],[]⟩) []:=yG
def rgV (r:Rg) (l:List Vh):Rg:=⟨r.num,r.ag,r.tk,l,r.bk⟩
def DoP (r:Rg) (m:Ms) (sec:List Int) (r':Rg) (p:Ms) (u:Bool) (e:Int):Prop:=
 (e≠0->u=false/\0<=e/\e<=100)/\(e=0->(∃o,o.length=8/\T0K r.tk o/\r'=rgT r o/\((u=false/\p=⟨14,[],[3,m.args.getD 0 0],[]⟩/\m.kind=3)∨(u=true/\sec.length=8/\m.kind=2/\∃k:Nat,k<8/\p=⟨16,[],[(k:Int)],r.num::(k:Int)::sec⟩)))∨
  (∃o,o.length<=8/\r'=rgV r o/\u=false/\(m.kind=4∨m.kind=5)/\p=⟨14,[],[m.kind,m.args.getD 0 0],[]⟩))
def XX (r:Rg) (m:Ms) (s now:Int) (sec:List Int):Prop:=∃(r':Rg) (p:Ms) (u:Bool) (e:Int),GM r'/\MsB p/\DoP r m sec r' p u e/\
 zN 236 [uX r,yE m,iA s,iA now,zD yA sec] [] (.tup [uX r',yE p,bA u,iA e]) []/\
 yR [uX r,yE m,iA s,iA now,zD yA sec] [] (.tup [uX r',yE p,bA u,iA e]) []
theorem zWf:MsB RY:=⟨zYe _,zYe _,zYe _⟩
theorem XX.bad {r:Rg} {m:Ms} {s now:Int} {sec:List Int} (e:Int) (he:e≠0) (h1:zN 236 [uX r,yE m,iA s,iA now,zD yA sec] [] (doR e) []) (h2:yR [uX r,yE m,iA s,iA now,zD yA sec] [] (doR e) []) (hb:0<=e/\e<=100:=by omega):XX r m s now sec:=
 ⟨rg0,RY,false,e,zWe,zWf,⟨λ_=>⟨rfl,hb⟩,λh=>absurd h he⟩,h1,h2⟩
theorem do3 (r:Rg) (hgv:gvF r=true) (tkn:List Int) (a s now:Int) (sec:List Int) (hu:fT r.tk s=true) (hs:(sec.length:Int)=0∨(sec.length:Int)=8)
  (m1:zN 119 [yE ⟨3,tkn,[a],[]⟩] [] (bA true) []) (m2:zN 84 [yE ⟨3,tkn,[a],[]⟩] [] (bA true) []):XX r ⟨3,tkn,[a],[]⟩ s now sec:=by
 have H:=zIk hgv;have c1:=aZ r MR;have k1:=cR r MR;rw[hgv]at c1 k1;have c3:=VN r.tk s;rw[hu]at c3;have c4:=dG r H.b;have k4:=QC r H.b;have c6:=zQm ⟨3,tkn,[a],[]⟩ a rfl;have k6:=AS 3 a;rw[show yE ⟨14,[],[(⟨3,tkn,[a],[]⟩:Ms).kind,a],[]⟩= .agg [iA 14,.sl false [],.sl false [iA 3,iA a],.sl false []]from rfl]at c6;rw[show yE ⟨14,[],[3,a],[]⟩= .agg [iA 14,.sl false [],.sl false [iA 3,iA a],.sl false []]from rfl]at k6;obtain⟨o,e,_,ho,ho8,c5,k5⟩:=EN r.tk H.b.tk a;have hls:=zA yA sec;have hlt:=zA xB r.tk;have hl1:([a].map iA).length=1:=rfl
 have hU:(r.tk.getD s.toNat default).used=true/\0<=s/\s<8:=by
  unfold fT at hu;rw[zYh,zX9]at hu;exact⟨hu.2,hu.1.1,by have:=H.n8;omega⟩
 have hn8:=H.n8;have hy:=yM xB r.tk s hU.2.1 zB;have hbR:GM (rgT r o):=⟨ho,H.b.s,H.b.l,H.b.v⟩;obtain⟨hU,hs0,hs8⟩:=hU;clear hu H hgv;generalize r.tk.getD s.toNat default=x at *;obtain⟨xu,x1,x2,x3,x4,x5⟩:=x;dsimp only at hU;subst hU;rw[show xB ⟨true,x1,x2,x3,x4,x5⟩= .agg [bA true,zD yA x1,iA x2,iA x3,iA x4,iA x5]from rfl]at hy;by_cases he:e=0
 ·subst he;refine⟨rgT r o,⟨14,[],[3,a],[]⟩,false,0,hbR,⟨zYe _,by simp,zYe _⟩,⟨λh=>absurd rfl h,λ_=> .inl ⟨o,by rw[(ho8 rfl).1,hn8],(ho8 rfl).2,rfl,.inl ⟨rfl,rfl,rfl⟩⟩⟩,?_,?_⟩
  ·rw[show yE ⟨14,[],[3,a],[]⟩= .agg [iA 14,.sl false [],.sl false [iA 3,iA a],.sl false []]from rfl]
   rcases hs with hs|hs
   all_goals
    refine eM call236 λF hF=>?_
    refine yQ (zt6 c1 m1 c3 c4 c5 c6) ?_;exact zJ
  ·rw[show yE ⟨14,[],[3,a],[]⟩= .agg [iA 14,.sl false [],.sl false [iA 3,iA a],.sl false []]from rfl]
   rcases hs with hs|hs
   all_goals
    exact yG
 ·refine .bad e he ?_ ?_
  ·rw[cD]
   rcases hs with hs|hs
   all_goals
    refine eM call236 λF hF=>?_
    refine yQ (zt6 c1 m1 c3 c4 c5 c6) ?_;exact zJ
  ·rw[cD]
   rcases hs with hs|hs
   all_goals
    exact yG
end Av
end Go.Proofs.YtmamjhmoegjapaaGreat
