/- Part 18. -/
import Derived.Test.YtmamjhmoegjapaaGreatQ17
import Derived.Scope
namespace Go.Proofs.YtmamjhmoegjapaaGreat
namespace Av
open Tryz
set_option linter.all false
set_option maxRecDepth 4000
set_option maxHeartbeats 4000000
theorem QI (l:List Vh) (id:Int) (hn:l.length<=1000000) (k:Nat) (k1:k<=l.length) (k2:∀i,i<k->(l.getD i default).id<id) (k3:k<l.length->¬(l.getD k default).id<id):zN 287 [zD vZ l,iA id] [] (iA k) []:=by
 have hll:=zA vZ l;refine eM call287 λF hF=>?_
 refine WW ?_;refine xT (l.length+1) [] [] [0,1] [5,0,1] rfl (λi T U zs=>(i<=k)/\zs=⟨(5,iA i)::T,U⟩) ?_;(conv=>whnf);refine⟨?_,?_,?_⟩
 ·exact⟨zXp _,rfl⟩
 ·rintro i st hi ⟨hik,rfl⟩;by_cases hlt:i<k
  ·have hy:=zM vZ l i zB;have hh:=k2 i hlt;generalize l.getD i default=x at *;refine WW ?_;exact⟨zB,rfl⟩
  ·obtain rfl:i=k:=by omega
   by_cases hkl:i<l.length
   ·have hy:=zM vZ l i hkl;have hh:=k3 hkl;generalize l.getD i default=x at *;refine WW ?_;exact zK
   ·(refine WW ?_)
    exact zK
 ·rintro st ⟨hik,rfl⟩;exfalso;omega
theorem GU (l:List Vh) (c:Int) (hn:l.length<=1000000):zN 303 [zD vZ l,iA c] [] (iA (kR l c)) []:=by
 have hl:=zA vZ l;refine eM call303 λF hF=>?_
 refine WW ?_;refine yB (l) [] [] [1,8,9] [5,10,1,8,9] rfl (λi pre T U=>⟨(5,iA (kR pre c))::(10,iA i)::T,U⟩) ?_;(conv=>whnf);refine⟨by rfl,?_,?_⟩
 ·intro i pre x post hx hi;have hy:=yP vZ hx hi;have hlt:=yF hx hi;have hle:kR pre c<=i:=by rw[<-hi];exact zZn _ _
  have e:kR (pre++[x]) c=kR pre c+(if x.cls=c then 1 else 0):=by
   unfold kR;rw[yAz,zXb];by_cases h:x.cls=c
   ·simp[h]
   ·simp[h]
  clear hx;by_cases h:x.cls=c
  ·rw[zW9 h]at e;rw[e];generalize kR pre c=m at *;refine WW ?_;rfl
  ·rw[zW8 h,yAd]at e;rw[e];generalize kR pre c=m at *;refine WW ?_;rfl
 ·(refine WW ?_)
  exact zK
theorem GV (a:Ag) (c:Int) (h0:0<=c) (h1:c<a.lim.length):zN 304 [vH a,iA c] [] (iA (a.lim.getD c.toNat default)) []:=by
 have hla:=zA iA a.lim;have hy:=yM iA a.lim c h0 h1;refine eM call304 λF hF=>?_
 refine WW ?_;exact zK
def agC (a:Ag) (c:Int):Ag:=⟨a.sec,a.rights,c,a.lim,a.req,a.ses,a.rate,a.burst⟩
theorem zGk {l:List Vh} (hv:HC l=true):∀j,j<l.length->∀i,i<j->(l.getD i default).id<(l.getD j default).id
 |0,_,i,hi=>absurd hi (zZq _)
 |j+1,hj,i,hi=>by
  have h1:=((zPl.1 hv).2 (j+1) hj).2 zB;rw[Nat.add_sub_cancel]at h1;by_cases h:i=j
  ·subst h;exact h1
  ·have:=zGk hv j zB i zB;omega
theorem UJ {l:List Vh} {id:Int} (hv:HC l=true) {k:Nat} (k1:k<=l.length) (k2:∀i,i<k->(l.getD i default).id<id) (k3:k<l.length->¬(l.getD k default).id<id):UL l id=true↔k<l.length/\(l.getD k default).id=id:=by
 constructor
 ·intro h;obtain⟨x,hx,he⟩:=zYv.1 h;obtain⟨i,hi,rfl⟩:=zZk hx;rw[zYr]at he;have hg:l.getD i default=l[i]:=by simp[List.getD,hi]
  rw[<-hg]at he;by_cases h1:i<k
  ·have:=k2 i h1;omega
  ·have hk:k<l.length:=by omega
   by_cases h2:i=k
   ·subst h2;exact⟨hk,he⟩
   ·have h3:=zGk hv i hi k zB;have h4:=k3 hk;omega
 ·rintro⟨hk,he⟩;exact zYv.2 ⟨l.getD k default,by simp[List.getD,hk],by rw[zYr];exact he⟩
theorem GW (l:List Vh) (hn:l.length<=1000000) (a:Ag) (hlim:(a.lim.length:Int)=4) (hc3:a.cls<=3) (v:Vh) (hv:HC l=true) (h1:0<=v.id) (h2:v.id<=4294967295) (h3:0<=v.cls) (h4:v.cls<=a.cls) (htw:UL l v.id=false) (h5:(kR l v.cls:Int)<a.lim.getD v.cls.toNat default) (h6:l.length<8)
  (k:Nat) (k1:k<=l.length) (k2:∀i,i<k->(l.getD i default).id<v.id) (k3:k<l.length->¬(l.getD k default).id<v.id):zN 286 [zD vZ l,vH a,vZ v] [] (.tup [zD vZ (l.take k++v::l.drop k),iA 0]) []:=by
 have hll:=zA vZ l;have hla:=zA iA a.lim;have c2:=WK l hn;have c3:=QI l v.id hn k k1 k2 k3;have c4:=GU l v.cls hn;have c5:=GV a v.cls h3 zB
 have hne:k<l.length->(l.getD k default).id≠v.id:=λhk e=>by
  rw[(UJ hv k1 k2 k3).2 ⟨hk,e⟩]at htw;cases htw
 rw[hv]at c2;clear hv htw k2 k3
 have hcn:(kR l v.cls:Int)<=1000000:=by
  have:kR l v.cls<=l.length:=zZn _ _;omega
 generalize (kR l v.cls:Int)=cn at *;generalize a.lim.getD v.cls.toNat default=lim at *;have hlK:((l.take (k:Int).toNat).map vZ).length=k:=by simp;omega
 have hlD:((l.drop (k:Int).toNat).map vZ).length=l.length-k:=by simp
 obtain⟨N,hN⟩:∃N,N=l.length+1:=⟨_,rfl⟩;have hnx:((l.map vZ).length:Int)+1=(N:Int):=by omega
 obtain⟨z1,hz1,hz1l⟩:∃z1,z1=(l.take k).map vZ++List.replicate (l.length+1-k) (AV.agg [.s (.int .i64 0),.s (.int .i64 0)])/\z1.length=l.length+1:=⟨_,rfl,by simp;omega⟩
 have hcp1:(List.replicate N (AV.agg [.s (.int .i64 0),.s (.int .i64 0)])).take 0++(l.take (k:Int).toNat).map vZ++(List.replicate N (AV.agg [.s (.int .i64 0),.s (.int .i64 0)])).drop (0+((l.take (k:Int).toNat).map vZ).length)=z1:=by
  rw[hz1,hlK,hN];simp
 have hat:z1[(k:Int).toNat]? =some (AV.agg [.s (.int .i64 0),.s (.int .i64 0)]):=by
  rw[hz1,zX2 wQ];rw[zY4,zW9 wQ]
 have hcp2:(z1.set (k:Int).toNat (.agg [iA v.id,iA v.cls])).take ((k:Int)+1).toNat++(l.drop (k:Int).toNat).map vZ++(z1.set (k:Int).toNat (.agg [iA v.id,iA v.cls])).drop (((k:Int)+1).toNat+((l.drop (k:Int).toNat).map vZ).length)=(l.take k++v::l.drop k).map vZ:=by
  have e1:z1.set (k:Int).toNat (.agg [iA v.id,iA v.cls])=(l.take k++[v]).map vZ++List.replicate (l.length-k) (AV.agg [.s (.int .i64 0),.s (.int .i64 0)]):=by
   rw[hz1,yAb _ _ wQ,show l.length+1-k=(l.length-k)+1 by omega,yAu];rw[show(k:Int).toNat-((l.take k).map vZ).length=0 by simp;omega];simp[vZ]
  have hl1:((l.take k++[v]).map vZ).length=k+1:=by simp;omega
  have e2:((l.take k++[v]).map vZ++List.replicate (l.length-k) (AV.agg [.s (.int .i64 0),.s (.int .i64 0)])).drop (k+1+(l.length-k))=[]:=yBl (by rw[zXb,hl1,zYz];exact zXc _);rw[e1,hlD,show((k:Int)+1).toNat=k+1 by omega,zZw zB,zXk zB,e2];simp
 clear hz1;obtain⟨z3,hz3⟩:∃z3,z3=(l.take k++v::l.drop k).map vZ:=⟨_,rfl⟩;have hz3l:z3.length=l.length+1:=by rw[hz3];simp;omega
 rw[<-hz3]at hcp2;rw[show zD vZ (l.take k++v::l.drop k)= .sl false z3 by rw[hz3];rfl];clear hz3;rw[show vZ v= .agg [iA v.id,iA v.cls]from rfl]at *; by_cases hk:k<l.length
 ·have hy:=zM vZ l k hk;have hne:=hne hk;generalize l.getD k default=x at *;refine eM call286 λF hF=>?_
  (have zc1:=c2;have zc2:=c3;have zc3:=c4;have zc4:=c5;(repeat' (first|refine qA ?_|refine xQ (λhc=>?_) (λhc=>?_)|refine wD (λhc=>?_)|(refine zE ?_;first|(refine gO ?_;refine zBm tok rfl rfl rfl rfl rfl rfl rfl rfl rfl rfl rfl rfl hnx zB zB rfl rfl rfl ?_)|(refine zP3 tok rfl rfl rfl rfl rfl rfl rfl (xH _ _ (λ_=>rfl)) rfl zB (by first|exact hcp1|exact hcp2) rfl ?_)|(refine qU ?_;refine gY tok rfl rfl rfl rfl rfl rfl rfl zB zB rfl ?_))|fail))<;>clear zc1 zc2 zc3 zc4)
  exact zH [] rfl rfl (zX7 (λz=>AV.tup [AV.sl false z,iA 0]) zPz) rfl
 ·clear hne;refine eM call286 λF hF=>?_
  (have zc1:=c2;have zc2:=c3;have zc3:=c4;have zc4:=c5;(repeat' (first|refine qA ?_|refine xQ (λhc=>?_) (λhc=>?_)|refine wD (λhc=>?_)|(refine zE ?_;first|(refine gO ?_;refine zBm tok rfl rfl rfl rfl rfl rfl rfl rfl rfl rfl rfl rfl hnx zB zB rfl rfl rfl ?_)|(refine zP3 tok rfl rfl rfl rfl rfl rfl rfl (xH _ _ (λ_=>rfl)) rfl zB (by first|exact hcp1|exact hcp2) rfl ?_)|(refine qU ?_;refine gY tok rfl rfl rfl rfl rfl rfl rfl zB zB rfl ?_))|fail))<;>clear zc1 zc2 zc3 zc4)
  exact zH [] rfl rfl (zX7 (λz=>AV.tup [AV.sl false z,iA 0]) zPz) rfl
theorem NA (l:List Vh) (hn:l.length<=1000000) (a:Ag) (most:Int) (hlim:(a.lim.length:Int)=4) (hc3:a.cls<=3) (v:Vh):∃(l':List Vh) (e:Int),((0<=e/\e<=100)/\(e≠0->l'=[]))/\(l'.length<=l.length+1/\l'.length<=8)/\zN 286 [zD vZ l,vH (agC a (min a.cls most)),vZ v] [] (.tup [zD vZ l',iA e]) []/\yR [zD vZ l,vH a,vZ v,iA most] [] (.tup [zD vZ l',iA e]) []:=by
 have hll:=zA vZ l;have hla:=zA iA a.lim;have p2:=WK l hn;have c1:=zM1 l v.id hn;have c2:=zC8 l hn;have c3:=zHa l v.cls hn;have p4:=GU l v.cls hn;have hcm:min a.cls most<=3:=by omega
 have hcl:min a.cls most<=a.cls:=by omega
 obtain⟨k,k1,k2,k3⟩:=FB l v.id;have hpl:=λhv=>UJ (l:=l) (id:=v.id) hv k1 k2 k3
 have p3:=QI l v.id hn k k1 k2 k3;have hreg:=λhv h1 h2 h3 h4 htw h5 h6=>GW l hn (agC a (min a.cls most)) hlim hcm v hv h1 h2 h3 h4 htw h5 h6 k k1 k2 k3
 have hcn:kR l v.cls<=1000000:=by
  have:kR l v.cls<=l.length:=zZn _ _;omega
 have p5:=λh3 h4=>GV (agC a (min a.cls most)) v.cls h3 h4
 rw[show(agC a (min a.cls most)).lim=a.lim from rfl]at hreg p5;rw[show(agC a (min a.cls most)).cls=min a.cls most from rfl]at hreg;have hAG:vH (agC a (min a.cls most))= .agg [zD yA a.sec,iA a.rights,iA (min a.cls most),zD iA a.lim,iA a.req,iA a.ses,iA a.rate,iA a.burst]:=rfl;rw[hAG]at *; generalize hf:cL l v.id=fv at *;generalize htw:UL l v.id=tw at *;generalize hok:HC l=ok at *;generalize kR l v.cls=cn at *;cases ok
 ·refine⟨[],1,⟨zB,λ_=>rfl⟩,⟨zXp _,zXp _⟩,?_,?_⟩
  ·clear hpl hreg p5;refine eM call286 λF hF=>?_
   refine zU p2 ?_;exact zK
  ·clear hpl hreg p5;exact yG
 by_cases h1:0<=v.id/\v.id<=4294967295
 case neg=>
  refine⟨[],8,⟨zB,λ_=>rfl⟩,⟨zXp _,zXp _⟩,?_,?_⟩
  ·clear hpl hreg p5
   by_cases g1:0<=v.id<;>((refine eM call286 λF hF=>?_);((refine zU p2 ?_));exact zK)
  ·clear hpl hreg p5
   by_cases g1:0<=v.id<;>(exact yG)
 obtain⟨h1,h2⟩:=h1;generalize hmm:min a.cls most=mm at *;by_cases h3:0<=v.cls/\v.cls<=mm
 case neg=>
  refine⟨[],17,⟨zB,λ_=>rfl⟩,⟨zXp _,zXp _⟩,?_,?_⟩
  ·clear hpl hreg p5
   by_cases g1:0<=v.cls<;>((refine eM call286 λF hF=>?_);((refine zU p2 ?_));exact zK)
  ·clear hpl hreg p5;subst hmm
   by_cases g1:0<=v.cls<;>(exact yG)
 obtain⟨h3,h4⟩:=h3;have hpl:=hpl rfl;have hp5:=p5 h3 zB;clear p5;cases tw
 case true=>
  obtain⟨hk,hid⟩:=hpl.1 rfl;have hy:=zM vZ l k hk;refine⟨[],11,⟨zB,λ_=>rfl⟩,⟨zXp _,zXp _⟩,?_,?_⟩
  ·clear hreg hpl k2 k3;generalize l.getD k default=x at *;refine eM call286 λF hF=>?_
   refine yO (wW p2 p3) ?_;exact zK
  ·clear hpl hreg;subst hmm;exact yG
 have hne:∀hk:k<l.length,(l.getD k default).id≠v.id:=λhk e=>by
  have:=hpl.2 ⟨hk,e⟩;cases this
 clear hpl;have hyl:=yM iA a.lim v.cls h3 zB;have hreg:=hreg rfl h1 h2 h3 h4 rfl;generalize a.lim.getD v.cls.toNat default=lim at *;by_cases h5:lim<=cn
 ·refine⟨[],14,⟨zB,λ_=>rfl⟩,⟨zXp _,zXp _⟩,?_,?_⟩
  ·clear hreg k2 k3;by_cases hk:k<l.length
   ·have hy:=zM vZ l k hk;have hne:=hne hk;generalize l.getD k default=x at *;refine eM call286 λF hF=>?_
    refine yO (aB p2 p3 p4 hp5) ?_;exact zK
   ·clear hne;refine eM call286 λF hF=>?_
    refine yO (aB p2 p3 p4 hp5) ?_;exact zK
  ·clear hreg hne k2 k3;subst hmm;exact yG
 by_cases h6:l.length<8
 case neg=>
  refine⟨[],10,⟨zB,λ_=>rfl⟩,⟨zXp _,zXp _⟩,?_,?_⟩
  ·clear hreg k2 k3;by_cases hk:k<l.length
   ·have hy:=zM vZ l k hk;have hne:=hne hk;generalize l.getD k default=x at *;refine eM call286 λF hF=>?_
    refine yO (aB p2 p3 p4 hp5) ?_;exact zK
   ·clear hne;refine eM call286 λF hF=>?_
    refine yO (aB p2 p3 p4 hp5) ?_;exact zK
  ·clear hreg hne k2 k3;subst hmm;exact yG
 refine⟨l.take k++v::l.drop k,0,⟨zB,λh=>absurd rfl h⟩,⟨by simp;omega,by simp;omega⟩,hreg zB h6,?_⟩;clear hok htw hreg hne p2 p3 p4 hp5;subst hmm;exact yG
section
variable {b:Frame} {a:Act} {k:List Item} {cs:List Frame} {w:World} {P:Program}
theorem jD {c:Code}:step P (lone (b.atR a (.code (.scope c)::k)) cs w)= .next (lone (b.atR a (.code c:: .inScope c::k)) cs w):=
 step_lone_go (by simp[stepG,stepG.exec,Frame.atR])
theorem NB {c:Code}:step P (lone (b.atR a (.inScope c::k)) cs w)= .next (lone (b.atR a k) cs w):=
 step_lone_go (by simp[stepG,stepG.exec,Frame.atR])
end
section
variable {F:Fence} {n:Nat} {P:Program} {Q:Exit->Act->World->Prop} {a:Act} {w:World}
theorem BJ {c:Code} (h:c.wpIn F n P (Exit.noGoto Q) a w):(Code.scope c).wpIn F n P Q a w:=by
 intro b k cs hro hb hr;have h0:(lone (b.atR a (.code (.scope c)::k)) cs w).fenced P F:=fenced_calm hb hr rfl;obtain⟨e,a₁,w₁,hq,harr⟩:=h b (.inScope c::k) cs hro hb hr
 cases e with
 |normal=>exact⟨.normal,a₁,w₁,hq,.head h0 jD (StepsIn.trans harr (.one (fenced_calm hb hr rfl) NB))⟩
 | exit id=>
  have hx:exitTo id (.inScope c::k)=exitTo id k:=by simp[exitTo]
  exact⟨.exit id,a₁,w₁,hq,λk' hk=> .head h0 jD (harr.1 k' (by rw[hx];exact hk)),
   λhr' hk=>let ⟨k₁,h1,h2⟩:=harr.2 hr' (by rw[hx];exact hk);⟨k₁,h1,.head h0 jD h2⟩⟩
 |goto l=>exact hq.elim
 |ret=>exact⟨_,a₁,w₁,hq,.of_steps (.one h0 jD) harr⟩
 |panic ch=>exact⟨_,a₁,w₁,hq,.of_steps (.one h0 jD) harr⟩
 |outgrown=>exact⟨_,a₁,w₁,hq,.of_steps (.one h0 jD) harr⟩
end
section
variable {P:Program} {K0:List Nat} {F:Fr K0} {m:Nat} {Q:Exit->St->Prop} {st:St}
def noG (Q:Exit->St->Prop):Exit->St->Prop
 | .goto _,_=>False
 |e,s=>Q e s
theorem wJ {c:Code} (h:uC P F m c st (noG Q)):uC P F m (.scope c) st Q:=⟨λa w H=>
 BJ (Code.wpIn_mono (λe a' w' ⟨s,h1,h2⟩=>by
  cases e with
  |goto l=>exact h1.elim
  |_=>exact⟨s,h1,h2⟩) (h.run a w H))⟩
theorem ZO {c:Code} (K ts:List Nat) (st0 st1 st2:St) (hK:K0.all (K.contains ·)=true) (he:restr K ts st=st0)
  (h0:uC P F m c st0 (λe s=>match e with| .normal=>restr K ts s=st1|e=>Q e s))
  (h1:uC P F m c st1 (λe s=>match e with| .normal=>restr K ts s=st2|e=>Q e s))
  (h2:uC P F m c st2 (λe s=>match e with| .normal=>False|e=>Q e s)):uC P F m (.loop c) st Q:=by
 refine wV (λn s=>(n=2/\s=st0)∨(n=1/\s=st1)∨(n=0/\s=st2)) 2 K ts hK (.inl ⟨rfl,he⟩) ?_;rintro n s (⟨rfl,rfl⟩|⟨rfl,rfl⟩|⟨rfl,rfl⟩)
 ·refine⟨λa w H=>Code.wpIn_mono (λe a' w' ⟨s,q1,q2⟩=>?_) (h0.run a w H)⟩
  cases e with
  |normal=>exact⟨s,⟨1,zB,.inr (.inl ⟨rfl,q1⟩)⟩,q2⟩
  |_=>exact⟨s,q1,q2⟩
 ·refine⟨λa w H=>Code.wpIn_mono (λe a' w' ⟨s,q1,q2⟩=>?_) (h1.run a w H)⟩
  cases e with
  |normal=>exact⟨s,⟨0,zB,.inr (.inr ⟨rfl,q1⟩)⟩,q2⟩
  |_=>exact⟨s,q1,q2⟩
 ·refine⟨λa w H=>Code.wpIn_mono (λe a' w' ⟨s,q1,q2⟩=>?_) (h2.run a w H)⟩
  cases e with
  |normal=>exact q1.elim
  |_=>exact⟨s,q1,q2⟩
theorem wK {l:Nat} (h:Q .normal st):uC P F m (.label l) st Q:=⟨λ_ _ H=>wpIn_label ⟨st,h,H⟩⟩
end
theorem zRr (N:Nat) (h1:1<=N) (h2:N<=1000000):zN 305 [.s (.slice none 0 0),iA N] [] (.ref 1001 0 0) [(1001,.arr 2 [] true)]:=by
 have hnx:(N:Int)-(0-0)=(N:Int):=by omega
 have hn3:(N:Int)-(0-((0:Nat):Int))=(N:Int):=by omega
 refine eM call305 λF hF=>?_
 (repeat' (first|refine WS ?_|refine SG (I2 (λhc=>?_) (λhc=>?_))|refine SG (λhc=>?_)|(refine zE ?_;first|(refine xK (PZ tok rfl rfl rfl) rfl ?_)|(refine qU ?_;refine xK (zAg tok rfl rfl rfl rfl rfl) rfl ?_)|(refine zOi tok rfl rfl rfl rfl rfl rfl rfl rfl rfl rfl rfl rfl rfl rfl (by first|exact hnx|exact hn3) h1 zB rfl rfl rfl ?_)|(refine qU ?_;refine zBy tok rfl rfl rfl rfl rfl rfl rfl rfl ?_))|(first|refine zD2 0 22 1001 rfl rfl rfl ?_|first|refine SR ?_|refine SK (I2 (λhc=>?_) (λhc=>?_))|refine SK (λhc=>?_)|fail)|fail))
 exact zL [1001] rfl rfl rfl rfl
theorem zMn:zN 305 [.s (.slice none 0 0),iA 0] [] (.s (.slice none 0 0)) []:=by
 refine eM call305 λF hF=>?_
 (repeat' (first|refine qA ?_|refine xQ (λhc=>?_) (λhc=>?_)|refine wD (λhc=>?_)|(refine zE ?_;first|(refine xK (PZ tok rfl rfl rfl) rfl ?_))|fail))
 exact zL [] rfl rfl rfl rfl
theorem zGl (a b:List Vh) (ha:a.length<=1000) (hb:b.length<=1000):zN 288 [.sl false [zD vZ a,zD vZ b]] [] (zD vZ (a++b)) []:=by
 have hla:=zA vZ a;have hlb:=zA vZ b;rw[show zD vZ (a++b)= .sl false (a.map vZ++b.map vZ) by unfold zD;rw[zXf]];have hsa:zD vZ a= .sl false (a.map vZ):=rfl;have hsb:zD vZ b= .sl false (b.map vZ):=rfl;rw[hsa,hsb];have hhA:∀y,(a.map vZ)[0]? =some y->y.cells.length=2:=xH _ _ (λ_=>rfl);have hhB:∀y,(b.map vZ)[0]? =some y->y.cells.length=2:=xH _ _ (λ_=>rfl);generalize a.map vZ=A at *;generalize b.map vZ=B at *;clear hsa hsb;have hyA:([AV.sl false A,.sl false B]:List AV)[(0:Int).toNat]? =some (.sl false A):=rfl;have hyB:([AV.sl false A,.sl false B]:List AV)[(0+1:Int).toNat]? =some (.sl false B):=rfl;have hl2:([AV.sl false A,.sl false B]:List AV).length=2:=rfl;generalize [AV.sl false A,.sl false B]=X at *;refine eM call288 λF hF=>?_
 refine WW ?_;refine ZO [] [3,11,0,9,10] ⟨[(3,iA 0),(11,iA 0),(0,.sl false X),(9,.sl false X),(10,iA X.length)],[]⟩ ⟨[(3,iA (0+(A.length:Int))),(11,iA (0+1)),(0,.sl false X),(9,.sl false X),(10,iA X.length)],[]⟩ ⟨[(3,iA (0+(A.length:Int)+(B.length:Int))),(11,iA (0+1+1)),(0,.sl false X),(9,.sl false X),(10,iA X.length)],[]⟩ rfl rfl ?_ ?_ ?_
 ·(refine WW ?_)
  rfl
 ·(refine WW ?_)
  rfl
 by_cases hN:A.length+B.length=0
 ·have c0:=zMn;rw[show iA 0=iA (0+(A.length:Int)+(B.length:Int)) by rw[show(0:Int)+(A.length:Int)+(B.length:Int)=0 by omega]]at c0
  (repeat' (first|refine qA ?_|refine xQ (λhc=>?_) (λhc=>?_)|refine wD (λhc=>?_)|(refine zE ?_;refine wB ?_;(refine uI 305 ?_;first|refine xK (wF c0 rfl rfl rfl rfl rfl) rfl ?_|refine uG (wF c0 rfl rfl rfl rfl rfl) rfl rfl rfl ?_|refine aD (wF c0 rfl rfl rfl rfl rfl) rfl rfl rfl ?_))|(refine zE ?_;first|refine SM ?_)|fail))
  refine xG 6 1001 2 rfl rfl rfl ?_;refine ZO [1001] [6,27,25,26] ⟨[(6,.ref 1001 0 0),(27,iA 0),(25,.sl false X),(26,iA X.length)],[(1001,.arr 2 [] true)]⟩ ⟨[(6,.ref 1001 0 A.length),(27,iA (0+1)),(25,.sl false X),(26,iA X.length)],[(1001,.arr 2 A false)]⟩ ⟨[(6,.ref 1001 0 (A++B).length),(27,iA (0+1+1)),(25,.sl false X),(26,iA X.length)],[(1001,.arr 2 (A++B) true)]⟩ rfl rfl ?_ ?_ ?_
  ·(repeat' (first|refine qA ?_|refine xQ (λhc=>?_) (λhc=>?_)|refine wD (λhc=>?_)|(refine zE ?_;first|(refine yV ?_;first|refine wO tok rfl rfl rfl rfl rfl rfl rfl hhA rfl rfl rfl zB rfl ?_|refine qB tok rfl rfl rfl rfl rfl rfl rfl rfl rfl rfl rfl hhB zB rfl ?_))|fail))
   rfl
  ·(repeat' (first|refine qA ?_|refine xQ (λhc=>?_) (λhc=>?_)|refine wD (λhc=>?_)|(refine zE ?_;first|(refine yV ?_;first|refine wO tok rfl rfl rfl rfl rfl rfl rfl hhA rfl rfl rfl zB rfl ?_|refine qB tok rfl rfl rfl rfl rfl rfl rfl rfl rfl rfl rfl hhB zB rfl ?_))|fail))
   rfl
  ·(refine WW ?_)
   exact zH [] rfl rfl (zX7 (AV.sl false) zI2) rfl
 ·have c0:=zRr (A.length+B.length) zB zB;rw[show((A.length+B.length:Nat):Int)=0+(A.length:Int)+(B.length:Int) by omega]at c0
  (repeat' (first|refine qA ?_|refine xQ (λhc=>?_) (λhc=>?_)|refine wD (λhc=>?_)|(refine zE ?_;refine wB ?_;(refine uI 305 ?_;first|refine xK (wF c0 rfl rfl rfl rfl rfl) rfl ?_|refine uG (wF c0 rfl rfl rfl rfl rfl) rfl rfl rfl ?_|refine aD (wF c0 rfl rfl rfl rfl rfl) rfl rfl rfl ?_))|(refine zE ?_;first|refine SM ?_)|fail))
  refine ZO [1001] [6,27,25,26] ⟨[(6,.ref 1001 0 0),(27,iA 0),(25,.sl false X),(26,iA X.length)],[(1001,.arr 2 [] true)]⟩ ⟨[(6,.ref 1001 0 A.length),(27,iA (0+1)),(25,.sl false X),(26,iA X.length)],[(1001,.arr 2 A false)]⟩ ⟨[(6,.ref 1001 0 (A++B).length),(27,iA (0+1+1)),(25,.sl false X),(26,iA X.length)],[(1001,.arr 2 (A++B) true)]⟩ rfl rfl ?_ ?_ ?_
  ·(repeat' (first|refine qA ?_|refine xQ (λhc=>?_) (λhc=>?_)|refine wD (λhc=>?_)|(refine zE ?_;first|(refine yV ?_;first|refine wO tok rfl rfl rfl rfl rfl rfl rfl hhA rfl rfl rfl zB rfl ?_|refine qB tok rfl rfl rfl rfl rfl rfl rfl rfl rfl rfl rfl hhB zB rfl ?_))|fail))
   rfl
  ·(repeat' (first|refine qA ?_|refine xQ (λhc=>?_) (λhc=>?_)|refine wD (λhc=>?_)|(refine zE ?_;first|(refine yV ?_;first|refine wO tok rfl rfl rfl rfl rfl rfl rfl hhA rfl rfl rfl zB rfl ?_|refine qB tok rfl rfl rfl rfl rfl rfl rfl rfl rfl rfl rfl hhB zB rfl ?_))|fail))
   rfl
  ·(refine WW ?_)
   exact zH [] rfl rfl (zX7 (AV.sl false) zI2) rfl
def rmV (l:List Vh) (id:Int):List Vh:=l.filter λv=>decide (v.id≠id)
theorem zGm {l:List Vh} {id:Int} (h:UL l id=false):rmV l id=l:=by
 unfold rmV;refine yCl.2 λx hx=>zXg λe=>?_
 have:=zZ8.1 h x hx;exact this (by rw[zYr];exact e)
theorem zGn {l:List Vh} {id:Int} (hv:HC l=true) {k:Nat} (hk:k<l.length) (he:(l.getD k default).id=id):rmV l id=l.take k++l.drop (k+1):=by
 have e0:l.getD k default=l[k]:=by simp[List.getD,hk]
 have e1:l=l.take k++l[k]::l.drop (k+1):=by rw[List.getElem_cons_drop,zZ1]
 have hlt:=zGk hv
 have h1:rmV (l.take k) id=l.take k:=by
  refine yCl.2 λx hx=>zXg λe=>?_
  obtain⟨i,hi,rfl⟩:=zZk hx;simp only[zXw]at hi;have q1:=hlt k hk i zB;have q2:l.getD i default=l[i]:=by simp[List.getD,show i<l.length by omega]
  rw[List.getElem_take]at e;rw[q2,e,he]at q1;omega
 have h2:rmV (l.drop (k+1)) id=l.drop (k+1):=by
  refine yCl.2 λx hx=>zXg λe=>?_
  obtain⟨i,hi,rfl⟩:=zZk hx;simp only[zYd]at hi;have q1:=hlt (k+1+i) zB k zB;have q2:l.getD (k+1+i) default=l[k+1+i]:=by simp[List.getD,show k+1+i<l.length by omega]
  rw[List.getElem_drop]at e;rw[q2,e,he]at q1;omega
 conv=>lhs;rw[e1]
 unfold rmV at h1 h2⊢;rw[yAz,List.filter_cons,zW8 (by rw[<-e0,he];simp),h1,h2]
theorem zC1 (l:List Vh) (hn:l.length<=1000000) (id:Int):yR [zD vZ l,iA id] [] (if HC l=true then(if(rmV l id).length=l.length then .tup [.sl false [],iA 12]else .tup [zD vZ (rmV l id),iA 0])else .tup [.sl false [],iA 1]) []:=yG
theorem GX (l:List Vh) (hn:l.length<=1000) (id:Int):∃(l':List Vh) (e:Int),((0<=e/\e<=100)/\(e≠0->l'=[]))/\l'.length<=l.length/\zN 264 [zD vZ l,iA id] [] (.tup [zD vZ l',iA e]) []/\yR [zD vZ l,iA id] [] (.tup [zD vZ l',iA e]) []:=by
 have hll:=zA vZ l;have p2:=WK l zB;have c:=zC1 l zB id;obtain⟨k,k1,k2,k3⟩:=FB l id;have p3:=QI l id zB k k1 k2 k3
 cases hv:HC l with
 |false=>
  rw[hv]at p2 c;rw[zW8 zXx]at c;refine⟨[],1,⟨zB,λ_=>rfl⟩,by simp,?_,c⟩;refine eM call264 λF hF=>?_
  refine WLo p2 ?_;exact zK
 |true=>
 have hpl:=UJ (id:=id) hv k1 k2 k3;rw[hv]at p2 c;rw[zW9 rfl]at c
 cases hh:UL l id with
 | false=>
  rw[zW9 (by rw[zGm hh])]at c;refine⟨[],12,⟨zB,λ_=>rfl⟩,by simp,?_,c⟩
  have hne:∀hk:k<l.length,(l.getD k default).id≠id:=λhk e=>by
   rw[hpl.2 ⟨hk,e⟩]at hh;cases hh
  clear hpl k2 k3 c;by_cases hk:k<l.length
  ·have hy:=zM vZ l k hk;have hne:=hne hk;generalize l.getD k default=x at *;refine eM call264 λF hF=>?_
   refine WLc (wW p2 p3) ?_;exact zK
  ·clear hne;refine eM call264 λF hF=>?_
   refine WLc (wW p2 p3) ?_;exact zK
 |true=>
  obtain⟨hk,he⟩:=hpl.1 hh;have er:=zGn hv hk he;have hlen:(rmV l id).length=l.length-1:=by rw[er];simp;omega
  rw[zW8 zB]at c;refine⟨rmV l id,0,⟨zB,λh=>absurd rfl h⟩,zB,?_,c⟩;have c4:=zGl (l.take (k:Int).toNat) (l.drop ((k:Int)+1).toNat) wQ wQ;rw[show l.take (k:Int).toNat++l.drop ((k:Int)+1).toNat=rmV l id by rw[er];congr 1]at c4;have hy:=zM vZ l k hk;clear hpl k2 k3 c er hlen;generalize rmV l id=l' at *;generalize l.getD k default=x at *;refine eM call264 λF hF=>?_
  refine WLc (gU p2 p3 c4) ?_;exact zK
theorem zPj (t:Tk):zN 302 [xD t] [] (bA (!t.used)) []:=by
 obtain⟨u,a,b,c,d,e⟩:=t
 cases u with
 |true=>
  rw[show xD ⟨true,a,b,c,d,e⟩= .agg [bA true,zD yA a,iA b,iA c,iA d,iA e]from rfl];refine eM call302 λF hF=>?_
  refine WW ?_;exact zK
 |false=>
  rw[show xD ⟨false,a,b,c,d,e⟩= .agg [bA false,zD yA a,iA b,iA c,iA d,iA e]from rfl];refine eM call302 λF hF=>?_
  refine WW ?_;exact zK
theorem zVc (l:List Tk) (hn:l.length<=1000000) (k:Nat) (hk:k<l.length) (h1:∀i,i<k->(l.getD i default).used=true) (h2:(l.getD k default).used=false):zN 301 [zD xD l,.fn 302 []] [] (iA k) []:=by
 have hl:=zA xD l;refine eM call301 λF hF=>?_
 refine WW ?_;refine xT (l.length) [] [] [0,1,7] [8,0,1,7] rfl (λi T U zs=>(i<=k)/\zs=⟨(8,iA i)::T,U⟩) ?_;(conv=>whnf);refine⟨?_,?_,?_⟩
 ·exact⟨zXp _,rfl⟩
 ·rintro i st hi ⟨hik,rfl⟩;have hy:=zM xD l i hi;have c:=zPj (l.getD i default);by_cases hie:i=k
  ·subst hie;rw[h2]at c;generalize l.getD i default=t at *;refine zU c ?_;exact zK
  ·rw[h1 i zB]at c;generalize l.getD i default=t at *;refine zU c ?_;exact⟨zB,rfl⟩
 ·rintro st ⟨hik,rfl⟩;exfalso;omega
def DZ (life now:Int):Int:=if 0<life then now+life else 0
theorem zMo (l:List Tk) (k:Nat) (t:Tk) (n:Nat) (hn:n=l.length):zD xD (l.set k t)= .sl false (((l.map xD).set k (xD t)).take n):=by
 rw[<-zZh,zXk wQ];rfl
def T0K (l o:List Tk):Prop:=(l.getD 0 default).used=true->(l.getD 0 default).par= -1->o.getD 0 default=l.getD 0 default
def zC2 (l:List Tk) (s:Int) (j:Nat):Tk:=if deF l j s=true then frT else l.getD j default
def UA (l:List Tk) (s:Int) (n:Nat):List Tk:=(List.range l.length).map λj=>if j<n then zC2 l s j else l.getD j default
theorem RC (l:List Tk) (s:Int) (n:Nat):(UA l s n).length=l.length:=by simp[UA]
theorem zGo (l:List Tk) (s:Int):UA l s 0=l:=by
 apply zYp;intro i;unfold UA;rw[zXd];by_cases h:i<l.length
 ·rw[zX6 h];simp[h,List.getD]
 ·rw[zX0 (l:=List.range l.length) wQ,zX0 zB];rfl
theorem zRs (l:List Tk) (s:Int) (n:Nat) (h:n<l.length):(UA l s n)[n]? =some (l.getD n default):=by
 unfold UA;rw[zXd,zX6 h];simp
theorem zGp (l:List Tk) (s:Int) (n:Nat) (h:n<l.length):UA l s (n+1)=(UA l s n).set n (zC2 l s n):=by
 apply zYp;intro i;rw[zZi];unfold UA;rw[zXd,zXd,zXa,zYu];by_cases hi:i<l.length
 ·rw[zX6 hi];by_cases e:n=i
  ·subst e;rw[zW9 rfl,zW9 hi];simp
  ·rw[zW8 e];simp only[Option.map_some];by_cases h1:i<n
   ·rw[zW9 h1,zW9 zB]
   ·rw[zW8 h1,zW8 zB]
 ·rw[zX0 (l:=List.range l.length) wQ,zW8 zB];rfl
theorem zC3 (l:List Tk) (hb:HE l) (hv:NC l=true) (s:Int) (hs:1<=s/\s<8) (h8:l.length=8) (hu:(l.getD s.toNat default).used=true):zN 261 [zD xD l,iA s] [] (.tup [zD xD (UA l s l.length),iA 0]) []:=by
 have c1:=WM l;rw[hv]at c1;have c2:=XH l hb;have hll:=zA xD l;have hy:=yM xD l s zB zB;have hd:=λj=>zHo l j s
 have fc:=AB;generalize l.getD s.toNat default=t at *;obtain⟨u,a1,a2,a3,a4,a5⟩:=t;dsimp only at hu;subst hu;rw[show xD ⟨true,a1,a2,a3,a4,a5⟩= .agg [bA true,zD yA a1,iA a2,iA a3,iA a4,iA a5]from rfl]at hy;refine eM call261 λF hF=>?_
 refine yO (wW c1 c2) ?_;refine zP (l.length) [1001] [] [0,1,6,26] [27,0,1,6,26] rfl (λi T U=>⟨(27,iA i)::T,(1001,.arr 6 ((UA l s i).map xD) false)::U⟩) ?_;(conv=>whnf);refine⟨by(rw[zGo];rfl),?_,?_⟩
 ·intro i hi;have hyi:((UA l s i).map xD)[i]? =some (xD (l.getD i default)):=by rw[zXd,zRs l s i hi];rfl
  have c3:=hd i;have hrl:i<((UA l s i).map xD).length:=by rw[zXa,RC];exact hi
  rw[zGp l s i hi,zZh];have hset:(l.getD i default)=(l.getD i default):=rfl
  have hsame:((UA l s i).map xD).set i (xD (l.getD i default))=(UA l s i).map xD:=by
   rw[zXv]at hyi;obtain⟨h,e⟩:=hyi;rw[<-e,yCc]
  unfold zC2
  cases hde:deF l i s with
  |true=>
   rw[hde]at c3;rw[zW9 rfl];generalize (UA l s i).map xD=xs at *;generalize l.getD i default=ti at *;clear hsame hset hd c1 c2;refine yO (wW c3 fc) ?_;rfl
  |false=>
   rw[hde]at c3;rw[zW8 zXx,hsame];generalize (UA l s i).map xD=xs at *;clear hsame hset hd c1 c2 fc;refine zU c3 ?_;rfl
 ·have hle:=RC l s l.length;rw[show zD xD (UA l s l.length)= .sl false (((UA l s l.length).map xD).take (l.map xD).length) by rw[zXk (by simp[hle])];rfl];generalize (UA l s l.length).map xD=xs at *;refine WW ?_;exact zK
def HB (l:List Tk) (k:Nat) (e:Int) (t:Tk):List Tk:=if e=0 then l.set k t else []
theorem zGq {P:Nat->Prop}:∀n,P n->∃m,m<=n/\P m/\∀k,k<m->¬P k:=by
 intro n
 induction n using Nat.strongRecOn with
 |_ n ih=>
  intro h;by_cases hx:∃k,k<n/\P k
  ·obtain⟨k,h1,h2⟩:=hx;obtain⟨m,h3,h4,h5⟩:=ih k h1 h2;exact⟨m,zB,h4,h5⟩
  ·exact⟨n,zXc _,h,λk h1 h2=>hx ⟨k,h1,h2⟩⟩
theorem zRt (l:List Tk) (hn:l.length<=1000000) (h1:∀i,i<l.length->(l.getD i default).used=true):zN 301 [zD xD l,.fn 302 []] [] (iA (-1)) []:=by
 have hl:=zA xD l;refine eM call301 λF hF=>?_
 refine WW ?_;refine zP (l.length) [] [] [0,1,7] [8,0,1,7] rfl (λi T U=>⟨(8,iA i)::T,U⟩) ?_;(conv=>whnf);refine⟨by rfl,?_,?_⟩
 ·intro i hi;have hy:=zM xD l i hi;have c:=zPj (l.getD i default);rw[h1 i hi]at c;generalize l.getD i default=t at *;refine zU c ?_;rfl
 ·(refine WW ?_)
  exact zK
def zGr (l:List Tk) (p R c life now:Int):Prop:=∃(k:Nat) (e:Int),(0<=e/\e<=20)/\(k=0∨k<l.length)/\(e=0->NC l=true/\0<=p/\p<l.length/\(l.getD k default).used=false)/\∀sec:List Int,(sec.length:Int)=8->
 zN 283 [zD xD l,iA p,iA R,iA c,iA life,zD yA sec,iA now] [] (.tup [zD xD (HB l k e ⟨true,sec,p,R,c,DZ life now⟩),iA k,iA e]) []/\
 yR [zD xD l,iA p,iA R,iA c,iA life,zD yA sec,iA now] [] (.tup [zD xD (HB l k e ⟨true,sec,p,R,c,DZ life now⟩),iA k,iA e]) []
theorem eQ {l:List Tk} {p R c life now:Int} (e:Int) (h1:1<=e) (h2:e<=20) (h:∀sec:List Int,(sec.length:Int)=8->zN 283 [zD xD l,iA p,iA R,iA c,iA life,zD yA sec,iA now] [] (.tup [zD xD [],iA 0,iA e]) []/\yR [zD xD l,iA p,iA R,iA c,iA life,zD yA sec,iA now] [] (.tup [zD xD [],iA 0,iA e]) []):zGr l p R c life now:=
 ⟨0,e,⟨zB,h2⟩,.inl rfl,λh0=>by omega,λsec hs=>by
  have hd:HB l 0 e ⟨true,sec,p,R,c,DZ life now⟩=[]:=by unfold HB;rw[zW8 zB]
  rw[hd]
  exact h sec hs⟩
theorem GY (l:List Tk) (hb:HE l) (p R c life now:Int):zGr l p R c life now:=by
 have hn:=hb.n;have hll:=zA xD l;have c1:=WM l;have r1:=MH l;rw[<-zG8]at r1
 cases hv:NC l with
 | false=>
  rw[hv]at c1 r1
  exact eQ 1 zB zB λsec hs=>⟨by
   have hls:=zA yA sec;refine eM call283 λF hF=>?_
   refine zU c1 ?_
   exact zK,by
   have hls:=zA yA sec
   exact yG⟩
 |true=>
 rw[hv]at c1 r1;have h8:(l.length:Int)=8:=by unfold NC at hv;rw[zXo,zXi]at hv;exact hv.1
 by_cases hn0:0<=now
 case neg=>
  exact eQ 1 zB zB λsec hs=>⟨by
   have hls:=zA yA sec;refine eM call283 λF hF=>?_
   refine zU c1 ?_
   exact zK,by
   have hls:=zA yA sec
   exact yG⟩
 by_cases hn1:now<=1073741824
 case neg=>
  exact eQ 1 zB zB λsec hs=>⟨by
   have hls:=zA yA sec;refine eM call283 λF hF=>?_
   refine zU c1 ?_
   exact zK,by
   have hls:=zA yA sec
   exact yG⟩
 have c2:=AA l p;by_cases hp0:0<=p
 case neg=>
  rw[show fJ l p=false by unfold fJ;rw[zXj (λh=>hp0 h.1)];rfl]at c2
  exact eQ 12 zB zB λsec hs=>⟨by
   have hls:=zA yA sec;refine eM call283 λF hF=>?_
   refine yO (wW c1 c2) ?_
   exact zK,by
   have hls:=zA yA sec
   exact yG⟩
 by_cases hp1:p<l.length
 case neg=>
  rw[show fJ l p=false by unfold fJ;rw[zXj (λh=>hp1 h.2)];rfl]at c2
  exact eQ 12 zB zB λsec hs=>⟨by
   have hls:=zA yA sec;refine eM call283 λF hF=>?_
   refine yO (wW c1 c2) ?_
   exact zK,by
   have hls:=zA yA sec
   exact yG⟩
 have hy:=yM xD l p hp0 hp1;have hus:fJ l p=(l.getD p.toNat default).used:=by unfold fJ;rw[zXg ⟨hp0,hp1⟩,zX1]
 rw[hus]at c2;have c3:=FQ R (l.getD p.toNat default).rights;have r3:=zDh R (l.getD p.toNat default).rights;have c4:=zBe (DZ life now) (l.getD p.toNat default).til;have r4:=zH3 (DZ life now) (l.getD p.toNat default).til
 have hun:DZ life now=if 0<life then now+life else 0:=rfl
 generalize DZ life now=un at *;clear hus;generalize l.getD p.toNat default=t at *;obtain⟨u,t1,t2,t3,t4,t5⟩:=t;rw[show∀u,xD ⟨u,t1,t2,t3,t4,t5⟩= .agg [bA u,zD yA t1,iA t2,iA t3,iA t4,iA t5]from λ_=>rfl]at hy;dsimp only at*
 cases u with
 | false=>
  exact eQ 12 zB zB λsec hs=>⟨by
   have hls:=zA yA sec;refine eM call283 λF hF=>?_
   refine yO (wW c1 c2) ?_
   exact zK,by
   have hls:=zA yA sec
   exact yG⟩
 |true=>
 cases hw:wiF R t3 with
 | false=>
  rw[hw]at c3 r3
  exact eQ 8 zB zB λsec hs=>⟨by
   have hls:=zA yA sec;refine eM call283 λF hF=>?_
   refine yO (gU c1 c2 c3) ?_
   exact zK,by
   have hls:=zA yA sec
   exact yG⟩
 |true=>
 rw[hw]at c3 r3;by_cases hc0:0<=c
 case neg=>
  exact eQ 8 zB zB λsec hs=>⟨by
   have hls:=zA yA sec;refine eM call283 λF hF=>?_
   refine yO (gU c1 c2 c3) ?_
   exact zK,by
   have hls:=zA yA sec
   exact yG⟩
 by_cases hc1:c<=t4
 case neg=>
  exact eQ 8 zB zB λsec hs=>⟨by
   have hls:=zA yA sec;refine eM call283 λF hF=>?_
   refine yO (gU c1 c2 c3) ?_
   exact zK,by
   have hls:=zA yA sec
   exact yG⟩
 by_cases hl0:0<=life
 case neg=>
  exact eQ 8 zB zB λsec hs=>⟨by
   have hls:=zA yA sec;refine eM call283 λF hF=>?_
   refine yO (gU c1 c2 c3) ?_
   exact zK,by
   have hls:=zA yA sec
   exact yG⟩
 by_cases hl1:life<=600
 case neg=>
  exact eQ 8 zB zB λsec hs=>⟨by
   have hls:=zA yA sec;refine eM call283 λF hF=>?_
   refine yO (gU c1 c2 c3) ?_
   exact zK,by
   have hls:=zA yA sec
   exact yG⟩
 cases hla:laF un t5 with
 | true=>
  rw[hla]at c4 r4;by_cases h0:0<life
  ·rw[zW9 h0]at hun;subst hun
   exact eQ 8 zB zB λsec hs=>⟨by
    have hls:=zA yA sec;refine eM call283 λF hF=>?_
    refine yO (aB c1 c2 c3 c4) ?_
    exact zK,by
    have hls:=zA yA sec
    exact yG⟩
  ·rw[zW8 h0]at hun;subst hun
   exact eQ 8 zB zB λsec hs=>⟨by
    have hls:=zA yA sec;refine eM call283 λF hF=>?_
    refine yO (aB c1 c2 c3 c4) ?_
    exact zK,by
    have hls:=zA yA sec
    exact yG⟩
 |false=>
 rw[hla]at c4 r4;clear hla hw;by_cases hex:∃k,k<l.length/\(l.getD k default).used=false
 case neg=>
  have hall:∀i,i<l.length->(l.getD i default).used=true:=λi hi=>by
   cases h:(l.getD i default).used with
   |true=>rfl
   |false=>exact absurd ⟨i,hi,h⟩ hex
  have c5:=zRt l hn hall
  rcases(show(0<life/\DZ life now=now+life)∨(¬0<life/\DZ life now=0) by unfold DZ;by_cases h:0<life;exact .inl ⟨h,zW9 h⟩;exact .inr ⟨h,zW8 h⟩)with⟨h0,hu0⟩|⟨h0,hu0⟩
  ·rw[zW9 h0]at hun;subst hun
   exact eQ 10 zB zB λsec hs=>⟨by
    have hls:=zA yA sec;refine eM call283 λF hF=>?_
    refine yO (zt5 c1 c2 c3 c4 c5) ?_
    exact zK,by
    have hls:=zA yA sec
    exact yG⟩
  ·rw[zW8 h0]at hun;subst hun
   exact eQ 10 zB zB λsec hs=>⟨by
    have hls:=zA yA sec;refine eM call283 λF hF=>?_
    refine yO (zt5 c1 c2 c3 c4 c5) ?_
    exact zK,by
    have hls:=zA yA sec
    exact yG⟩
 obtain⟨k0,hk0,hu0⟩:=hex;obtain⟨k,_,⟨hk,hkf⟩,hkm⟩:=zGq (P:=λk=>k<l.length/\(l.getD k default).used=false) k0 ⟨hk0,hu0⟩
 have hbe:∀i,i<k->(l.getD i default).used=true:=λi hi=>by
  cases h:(l.getD i default).used with
  |true=>rfl
  |false=>exact absurd ⟨zB,h⟩ (hkm i hi)
 have c5:=zVc l hn k hk hbe hkf;have c6:=XH l hb;have r6:=BW l hb;refine⟨k,0,zB,.inr hk,λ_=>⟨hv,hp0,hp1,hkf⟩,λsec hs=>?_⟩;have hd:∀x:Tk,HB l k 0 x=l.set k x:=λx=>by unfold HB;rw[zW9 rfl]
 rw[hd];have c7:=wA sec zB;have hls:=zA yA sec;have hyk:=zM xD l k hk;have eS:=zMo l k ⟨true,sec,p,R,c,DZ life now⟩ (l.map xD).length hll;rw[eS];clear eS hd;rw[show DZ life now=if 0<life then now+life else 0 from rfl];by_cases h0:0<life
 ·rw[zW9 h0]at hun⊢;subst hun;refine⟨?_,?_⟩
  ·clear r1 r3 r4 r6 hbe hkm hkf;generalize l.getD k default=tk at *;refine eM call283 λF hF=>?_
   refine yO (zt7 c1 c2 c3 c4 c5 c6 c7) ?_;exact zK
  ·clear c1 c2 c3 c4 c5 c6 c7;exact yG
 ·rw[zW8 h0]at hun⊢;subst hun;refine⟨?_,?_⟩
  ·clear r1 r3 r4 r6 hbe hkm hkf;generalize l.getD k default=tk at *;refine eM call283 λF hF=>?_
   refine yO (zt7 c1 c2 c3 c4 c5 c6 c7) ?_;exact zK
  ·clear c1 c2 c3 c4 c5 c6 c7;exact yG
theorem zVd (l:List Tk) (s:Int) (h8:l.length=8):UA l s l.length=frB (λi=>ldF l 9 i s) l 8:=by
 unfold UA frB;apply yAp;intro j hj;have hj:=zXz.1 hj;unfold zC2;rw[zW9 hj,zPn h8];by_cases h:ldF l 9 j s=true
 ·rw[zW9 h,zW9 ⟨zB,h⟩]
 ·rw[zW8 h,zW8 (λk=>h k.2)]
theorem ZP:HE []:=⟨by simp,λt h=>by simp at h⟩
theorem zRu {l:List Tk} (hb:HE l) (s:Int) (n:Nat):HE (UA l s n):=by
 refine⟨by rw[RC];exact hb.n,λt ht=>?_⟩
 have hg:∀j,(l.getD j default).sec.length<=1000000:=λj=>by
  by_cases h:j<l.length
  ·exact hb.s _ (by simp[List.getD,h])
  ·rw[show l.getD j default=default by simp[List.getD,h]];exact zXp _
 unfold UA at ht;rw[zYo]at ht;obtain⟨j,_,rfl⟩:=ht;split
 ·unfold zC2;split
  ·exact zXp _
  ·exact hg j
 ·exact hg j
theorem zRv {l:List Tk} {s:Int} (h1:1<=s) (h8:1<=l.length):T0K l (UA l s l.length):=λhu hp=>by
 have e:deF l 0 s=false:=by
  unfold deF;rw[kV,show fJ l 0=true by unfold fJ;rw[zXg ⟨zZf 0,zB⟩,zX1];exact hu,zYk];rw[show(0:Int).toNat=0 from rfl,hp];rw[kV,show fJ l (-1)=false by unfold fJ;rw[zXj zB,zY2],zY8];simp;omega
 unfold UA;rw[zXh,zXd,zX6 zB,Option.map_some,zZg,zW9 zB];unfold zC2;rw[show((0:Nat):Int)=0 from rfl,e,zW8 zXx]
theorem GZ (l:List Tk) (hb:HE l) (s:Int):∃(o:List Tk) (e:Int),(0<=e/\e<=20)/\HE o/\(e=0->o.length=l.length/\T0K l o)/\zN 261 [zD xD l,iA s] [] (.tup [zD xD o,iA e]) []/\yR [zD xD l,iA s] [] (.tup [zD xD o,iA e]) []:=by
 have hn:=hb.n;have hll:=zA xD l;have c1:=WM l;have r1:=MH l;rw[<-zG8]at r1
 cases hv:NC l with
 | false=>
  rw[hv]at c1 r1;refine⟨[],1,zB,ZP,λh=>absurd h xL,?_,?_⟩
  ·(refine eM call261 λF hF=>?_)
   refine zU c1 ?_;exact zK
  ·exact yG
 |true=>
 rw[hv]at c1 r1;have h8:l.length=8:=by unfold NC at hv;rw[zXo,zXi]at hv;omega
 by_cases h1:1<=s
 case neg=>
  refine⟨[],8,zB,ZP,λh=>absurd h xL,?_,?_⟩
  ·(refine eM call261 λF hF=>?_)
   refine zU c1 ?_;exact zK
  ·exact yG
 by_cases h2:s<8
 case neg=>
  refine⟨[],8,zB,ZP,λh=>absurd h xL,?_,?_⟩
  ·(refine eM call261 λF hF=>?_)
   refine zU c1 ?_;exact zK
  ·exact yG
 have hy:=yM xD l s zB zB
 cases hu:(l.getD s.toNat default).used with
 | false=>
  rw[show xD (l.getD s.toNat default)=OM false (l.getD s.toNat default) by unfold xD OM;rw[hu]]at hy;unfold OM at hy;generalize l.getD s.toNat default=t at *;refine⟨[],12,zB,ZP,λh=>absurd h xL,?_,?_⟩
  ·(refine eM call261 λF hF=>?_)
   refine zU c1 ?_;exact zK
  ·exact yG
 |true=>
  have cr:=zC3 l hb hv s ⟨h1,h2⟩ h8 hu;have b1:=zMy l s h8;rw[h8]at b1;have b2:=zMz l hb (λi=>ldF l 9 i s) h8;rw[<-zVd l s h8]at b2;rw[show xD (l.getD s.toNat default)=OM true (l.getD s.toNat default) by unfold xD OM;rw[hu]]at hy;unfold OM at hy;refine⟨UA l s l.length,0,zB,zRu hb s _,λ_=>⟨RC l s _,zRv zB zB⟩,cr,?_⟩;clear cr hu;generalize UA l s l.length=l2 at *;generalize eX (λi=>ldF l 9 i s) 8=b at *;generalize l.getD s.toNat default=t at *;exact yG
def TW (r:Rg):xN:= .box [iA r.num,zD yA r.ag.sec,iA r.ag.rights,iA r.ag.cls,zD iA r.ag.lim,iA r.ag.req,iA r.ag.ses,iA r.ag.rate,iA r.ag.burst,zD xD r.tk,zD vZ r.vh,iA r.bk.level,iA r.bk.rate,iA r.bk.burst]
def rgT (r:Rg) (l:List Tk):Rg:=⟨r.num,r.ag,l,r.vh,r.bk⟩
theorem zPk (m:Ms) (a:Int) (ha:m.args=[a]):zN 262 [zY m] [] (zY ⟨14,[],[m.kind,a],[]⟩) []:=by
 obtain⟨k,t,ar,d⟩:=m;dsimp only at ha⊢;subst ha;have hl1:([a].map iA).length=1:=rfl;refine eM call262 λF hF=>?_
 refine WL ?_;exact zK
theorem zRw {l:List Tk} (h:NC l=true):HE l/\l.length=8:=by
 rw[zG8]at h;have T:=(zR1 l).1 h;refine⟨⟨by have:=T.n;omega,λt ht=>?_⟩,T.n⟩;obtain⟨i,hi,rfl⟩:=zZk ht;have hi8:i<8:=by have:=T.n;omega
 have e:l.getD i default=l[i]:=by simp[List.getD,hi]
 cases hu:(l.getD i default).used with
 |false=>
  have:=T.f i hi8 hu;unfold FD at this;rw[zXi]at this;rw[<-e];omega
 |true=>
  have:=(T.s i hi8 hu).1;unfold soF zG1 at this;simp only[zXo,zXi]at this;rw[<-e];omega
theorem zRx {l:List Tk} (hb:HE l) (k:Nat) (e:Int) (t:Tk) (ht:t.sec.length<=1000000):HE (HB l k e t):=by
 unfold HB;split
 ·refine⟨by rw[zY3];exact hb.n,λx hx=>?_⟩
  rcases yAk hx with h|rfl
  ·exact hb.s x h
  ·exact ht
 ·exact ZP
structure GvB (r:Rg):Prop where
 num:0<=r.num/\r.num<4
 b:FU r
 tv:NC r.tk=true
 n8:r.tk.length=8
 lim:(r.ag.lim.length:Int)=4
 cls:0<=r.ag.cls/\r.ag.cls<=3
 vl:r.vh.length<=8
theorem zGs {r:Rg} (h:gvF r=true):GvB r:=by
 unfold gvF at h;simp only[zXo,zXi]at h;obtain⟨h1,h2,h3,h4,h5,h6⟩:=h;obtain⟨t1,t2⟩:=zRw h3;have hv:=(zPl.1 h4).1;unfold avF at h2;simp only[zXo,zXi]at h2;obtain⟨⟨a1,a2⟩,a3,a4,a5,a6⟩:=h2;unfold jK at a5;rw[zXi]at a5;exact⟨h1,⟨t1,zB,zB,zB⟩,h3,t2,a2,a5,hv⟩
def rg0:Rg:=⟨0,⟨[],0,0,[],0,0,0,0⟩,[],[],⟨0,0,0⟩⟩
def RD:Ms:=⟨0,[],[],[]⟩
def doR (e:Int):AV:= .tup [uW rg0,zY RD,bA false,iA e]
theorem zVe:FU rg0:=⟨ZP,zXp _,zXp _,zXp _⟩
theorem dV (e:Int):doR e= .tup [.agg [iA 0,.sl false [],iA 0,iA 0,.sl false [],iA 0,iA 0,iA 0,iA 0,.sl false [],.sl false [],iA 0,iA 0,iA 0],.agg [iA 0,.sl false [],.sl false [],.sl false []],bA false,iA e]:=rfl
theorem XA (r:Rg) (m:Ms) (s now:Int) (sec:List Int) (gv b us:Bool) (c1:zN 258 [uW r] [] (bA gv) []) (c2:zN 119 [zY m] [] (bA b) []) (c3:zN 259 [zD xD r.tk,iA s] [] (bA us) []) (h:gv=false∨b=false∨us=false∨(¬(sec.length:Int)=0/\¬(sec.length:Int)=8)) (hsl:sec.length<=1000):
  zN 236 [uW r,zY m,iA s,iA now,zD yA sec] [] (doR 1) []:=by
 rw[dV];have hls:=zA yA sec;cases gv
 ·(refine eM call236 λF hF=>?_)
  refine zU c1 ?_;exact zK
 cases b
 ·(refine eM call236 λF hF=>?_)
  refine yO (wW c1 c2) ?_;exact zK
 cases us
 ·(refine eM call236 λF hF=>?_)
  refine yO (gU c1 c2 c3) ?_;exact zK
 ·rcases h with h|h|h|⟨h1,h2⟩
  ·cases h
  ·cases h
  ·cases h
  ·(refine eM call236 λF hF=>?_)
   refine yO (gU c1 c2 c3) ?_;exact zK
theorem zGt (r:Rg) (m:Ms) (s now:Int) (sec:List Int) (c1:yR [uW r] [] (bA false) []):
 yR [uW r,zY m,iA s,iA now,zD yA sec] [] (doR 1) []:=yG
theorem zGu (r:Rg) (m:Ms) (s now:Int) (sec:List Int) (c1:yR [uW r] [] (bA true) []) (h2:¬m.kind=2) (h3:¬m.kind=3) (h4:¬m.kind=4) (h5:¬m.kind=5):
 yR [uW r,zY m,iA s,iA now,zD yA sec] [] (doR 1) []:=yG
theorem QJ (r:Rg) (m:Ms) (s now:Int) (sec:List Int) (n8:r.tk.length=8) (b:Bool) (c1:yR [uW r] [] (bA true) []) (c2:zN 84 [zY m] [] (bA b) []) (hk:m.kind=2∨m.kind=3∨m.kind=4∨m.kind=5)
 (h:b=false∨fJ r.tk s=false∨(¬(sec.length:Int)=0/\¬(sec.length:Int)=8)) (hsl:sec.length<=1000):yR [uW r,zY m,iA s,iA now,zD yA sec] [] (doR 1) []:=yG
theorem BK (k a:Int):yR [iA k,iA a] [] (zY ⟨14,[],[k,a],[]⟩) []:=yG
def rgV (r:Rg) (l:List Vh):Rg:=⟨r.num,r.ag,r.tk,l,r.bk⟩
def DoP (r:Rg) (m:Ms) (sec:List Int) (r':Rg) (p:Ms) (u:Bool) (e:Int):Prop:=
 (e≠0->u=false/\0<=e/\e<=100)/\(e=0->(∃o,o.length=8/\T0K r.tk o/\r'=rgT r o/\((u=false/\p=⟨14,[],[3,m.args.getD 0 0],[]⟩/\m.kind=3)∨(u=true/\sec.length=8/\m.kind=2/\∃k:Nat,k<8/\p=⟨16,[],[(k:Int)],r.num::(k:Int)::sec⟩)))∨
  (∃o,o.length<=8/\r'=rgV r o/\u=false/\(m.kind=4∨m.kind=5)/\p=⟨14,[],[m.kind,m.args.getD 0 0],[]⟩))
def XB (r:Rg) (m:Ms) (s now:Int) (sec:List Int):Prop:=∃(r':Rg) (p:Ms) (u:Bool) (e:Int),FU r'/\MsB p/\DoP r m sec r' p u e/\
 zN 236 [uW r,zY m,iA s,iA now,zD yA sec] [] (.tup [uW r',zY p,bA u,iA e]) []/\
 yR [uW r,zY m,iA s,iA now,zD yA sec] [] (.tup [uW r',zY p,bA u,iA e]) []
theorem zVf:MsB RD:=⟨zXp _,zXp _,zXp _⟩
theorem XB.bad {r:Rg} {m:Ms} {s now:Int} {sec:List Int} (e:Int) (he:e≠0) (h1:zN 236 [uW r,zY m,iA s,iA now,zD yA sec] [] (doR e) []) (h2:yR [uW r,zY m,iA s,iA now,zD yA sec] [] (doR e) []) (hb:0<=e/\e<=100:=by omega):XB r m s now sec:=
 ⟨rg0,RD,false,e,zVe,zVf,⟨λ_=>⟨rfl,hb⟩,λh=>absurd h he⟩,h1,h2⟩
theorem do3 (r:Rg) (hgv:gvF r=true) (tkn:List Int) (a s now:Int) (sec:List Int) (hu:fJ r.tk s=true) (hs:(sec.length:Int)=0∨(sec.length:Int)=8)
  (m1:zN 119 [zY ⟨3,tkn,[a],[]⟩] [] (bA true) []) (m2:zN 84 [zY ⟨3,tkn,[a],[]⟩] [] (bA true) []):XB r ⟨3,tkn,[a],[]⟩ s now sec:=by
 have H:=zGs hgv;have c1:=aO r NT;have k1:=cJ r NT;rw[hgv]at c1 k1;have c3:=WN r.tk s;rw[hu]at c3;have c4:=eW r H.b;have k4:=RH r H.b;have c6:=zPk ⟨3,tkn,[a],[]⟩ a rfl;have k6:=BK 3 a;rw[show zY ⟨14,[],[(⟨3,tkn,[a],[]⟩:Ms).kind,a],[]⟩= .agg [iA 14,.sl false [],.sl false [iA 3,iA a],.sl false []]from rfl]at c6;rw[show zY ⟨14,[],[3,a],[]⟩= .agg [iA 14,.sl false [],.sl false [iA 3,iA a],.sl false []]from rfl]at k6;obtain⟨o,e,_,ho,ho8,c5,k5⟩:=GZ r.tk H.b.tk a;have hls:=zA yA sec;have hlt:=zA xD r.tk;have hl1:([a].map iA).length=1:=rfl
 have hU:(r.tk.getD s.toNat default).used=true/\0<=s/\s<8:=by
  unfold fJ at hu;rw[zXo,zXi]at hu;exact⟨hu.2,hu.1.1,by have:=H.n8;omega⟩
 have hn8:=H.n8;have hy:=yM xD r.tk s hU.2.1 zB;have hbR:FU (rgT r o):=⟨ho,H.b.s,H.b.l,H.b.v⟩;obtain⟨hU,hs0,hs8⟩:=hU;clear hu H hgv;generalize r.tk.getD s.toNat default=x at *;obtain⟨xu,x1,x2,x3,x4,x5⟩:=x;dsimp only at hU;subst hU;rw[show xD ⟨true,x1,x2,x3,x4,x5⟩= .agg [bA true,zD yA x1,iA x2,iA x3,iA x4,iA x5]from rfl]at hy;by_cases he:e=0
 ·subst he;refine⟨rgT r o,⟨14,[],[3,a],[]⟩,false,0,hbR,⟨zXp _,by simp,zXp _⟩,⟨λh=>absurd rfl h,λ_=> .inl ⟨o,by rw[(ho8 rfl).1,hn8],(ho8 rfl).2,rfl,.inl ⟨rfl,rfl,rfl⟩⟩⟩,?_,?_⟩
  ·rw[show zY ⟨14,[],[3,a],[]⟩= .agg [iA 14,.sl false [],.sl false [iA 3,iA a],.sl false []]from rfl]
   rcases hs with hs|hs
   all_goals
    refine eM call236 λF hF=>?_
    refine yO (zt6 c1 m1 c3 c4 c5 c6) ?_;exact zK
  ·rw[show zY ⟨14,[],[3,a],[]⟩= .agg [iA 14,.sl false [],.sl false [iA 3,iA a],.sl false []]from rfl]
   rcases hs with hs|hs
   all_goals
    exact yG
 ·refine .bad e he ?_ ?_
  ·rw[dV]
   rcases hs with hs|hs
   all_goals
    refine eM call236 λF hF=>?_
    refine yO (zt6 c1 m1 c3 c4 c5 c6) ?_;exact zK
  ·rw[dV]
   rcases hs with hs|hs
   all_goals
    exact yG
end Av
end Go.Proofs.YtmamjhmoegjapaaGreat
