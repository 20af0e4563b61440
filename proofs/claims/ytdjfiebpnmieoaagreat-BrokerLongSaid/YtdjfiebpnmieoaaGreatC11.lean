/- Part 11. -/
import Derived.Test.YtdjfiebpnmieoaaGreatC10
import Derived.Test.YtdjfiebpnmieoaaGreatC09
namespace Go.Proofs.YtdjfiebpnmieoaaGreat.Av
open Tryz
set_option linter.all false
set_option maxRecDepth 4000
set_option maxHeartbeats 2000000
open List renaming length->ln,range->nm,getD->ny
open Inhabited renaming default->dd
variable {f4:Int}{l:List Rq}
def dy (d:Dk):Dk:=ad (ad (ad (ad d)))
def IN (d:Dk):Nat->List Jn×Dk
 |0=>([],d)
 |i+1=>((IN d i).1++[KG (IN d i).2],P6 (IN d i).2)
def PG (d:Dk) (u:Int):Nat->List Ag×Dk
 |0=>([],d)
 |i+1=>((PG d u i).1++[Rn (PG d u i).2 i u],ad (Hr (PG d u i).2))
theorem MX (d:Dk):∀i,(IN d i).1.length=i
 |0=>rfl
 |i+1=>by simp[IN,MX d i]
theorem aG (d:Dk) (u:Int):∀i,(PG d u i).1.length=i
 |0=>rfl
 |i+1=>by simp[PG,aG d u i]
def L2 (d:Dk) (u:Int) (i:Nat):(PG d u (i+1)).2=ad (Hr (PG d u i).2):=by simp only[PG]
def Mp (d:Dk) (u:Int) (i:Nat):(PG d u (i+1)).1=(PG d u i).1++[Rn (PG d u i).2 i u]:=by simp only[PG]
def W5 (d:Dk):Nat:=(1+nx (dy d) 2).toNat
def zj (d:Dk):List Jn×Dk:=IN (ad (dy d)) (W5 d)
def K2 (d:Dk):Nat:=(1+nx (zj d).2 3).toNat
def J2 (d:Dk) (u:Int):List Ag×Dk:=PG (ad (zj d).2) u (K2 d)
def JU (d:Dk) (u:Int):Cf:=⟨(zj d).1,(J2 d u).1,1+nx d (4-1+1),nx (ad d) 4,1+nx (ad (ad d)) (3-1+1),nx (ad (ad (ad d))) 5⟩
def C7 (d:Dk) (u:Int):Dk:=(J2 d u).2
theorem Xb (d:Dk) (u:Int):zO 21 [.ptr 1000 0 0,iA u] [(1000,CO d)] (wO (JU d u)) [(1000,CO (C7 d u))]:=by
 have hn:=uK (dy d) 2 zB;have hm:=uK (zj d).2 3 zB;have en:1+nx (dy d) 2=(W5 d:Int):=(zEa zB).symm;have em:1+nx (zj d).2 3=(K2 d:Int):=(zEa zB).symm;have ej:zj d=IN (ad (dy d)) (W5 d):=rfl;have eg:J2 d u=PG (ad (zj d).2) u (K2 d):=rfl;have ef:JU d u=⟨(zj d).1,(J2 d u).1,1+nx d (4-1+1),nx (ad d) 4,1+nx (ad (ad d)) (3-1+1),nx (ad (ad (ad d))) 5⟩:=rfl;have ed:C7 d u=(J2 d u).2:=rfl;rw[ef,ed];unfold dy at *;generalize zj d=jj,J2 d u=gg,W5 d=N,K2 d=M at *;have jc:=λi=>rd (IN (ad (ad (ad (ad (ad d))))) i).2
 refine eM call21 λF hF=>?_
 (repeat' (first|refine XC ?_|refine yZ (λhc=>?_) λhc=>?_|(apply zG;apply xO;(first|(refine vG 52 ?_;first|refine yE (zL (fE _ _ _ zB zB zB) Z Z Z Z Z) Z ?_|refine qB (zL (fE _ _ _ zB zB zB) Z Z Z Z Z) Z Z Z ?_|refine ZR (zL (fE _ _ _ zB zB zB) Z Z Z Z Z) Z Z Z ?_)|(refine vG 45 ?_;first|refine yE (zL (qU _ _ zB zB) Z Z Z Z Z) Z ?_|refine qB (zL (qU _ _ zB zB) Z Z Z Z Z) Z Z Z ?_|refine ZR (zL (qU _ _ zB zB) Z Z Z Z Z) Z Z Z ?_)))|fail))
 generalize nx d (4-1+1)=S,nx (ad d) 4=U,nx (ad (ad d)) (3-1+1)=V,nx (ad (ad (ad d))) 5=W,nx (ad (ad (ad (ad d)))) 2=O,ad (ad (ad (ad (ad d))))=C at *;refine qJ 5 0 1001 3 Z Z Z Z Z ?_
 refine wF (λn st=>∃i:Nat,n+i=N/\st=⟨[(0,.ptr 1000 0 0),(1,iA u),(4,.ptr 4 0 0),(5,.ptr 5 0 0),(6,iA (1+O-i))],
   [(1000,CO (IN C i).2),(4,.box [.s (.slice none 0 0),.s (.slice none 0 0),iA 0,iA 0,iA 0,iA 0]),(5,.box [.ref 1001 0 ((IN C i).1.map wD).length,.s (.slice none 0 0),iA (1+S),iA U,iA (1+V),iA W]),(1001,.arr 3 ((IN C i).1.map wD) true)]⟩)
  N [1000,4,5,1001] [0,1,4,5,6] Z ⟨0,rfl,by rw[show 1+O-(0:Nat)=1+O by omega];rfl⟩ ?_
 rintro n st ⟨i,hi,rfl⟩;by_cases I:i<N
 .have A:(IN C (i+1)).1.map wD=(IN C i).1.map wD++[wD (KG (IN C i).2)]:=zAf;have z:(IN C (i+1)).2=P6 (IN C i).2:=rfl;have c:=jc i;have G:=MX C i;generalize L:IN C (i+1)=q' at A z;generalize IN C i=q at *;obtain⟨ql,R⟩:=q;dsimp only at A z G c⊢;generalize KG R=jf,P6 R=jd at *;refine zQ c ?_;exact⟨n-1,zB,i+1,zB,by rw[L,A,z,show 1+O-((i+1:Nat):Int)=1+O-i-1 by omega];rfl⟩
 obtain rfl:i=N:=by omega
 have ap:jj.1.length=i:=by rw[ej];exact MX _ _
 rw[<-ej];clear ej jc ef ed;obtain⟨E,Y⟩:=jj;dsimp only at *;have ar:(E.map wD).length=ln E:=by simp
 have ag:=aG (ad Y) u M;have ac:=λk (hk:k<M)=>Qn (PG (ad Y) u k).2 k u zB zB
 rw[<-eg]at ag
 (repeat' (first|refine XC ?_|refine yZ (λhc=>?_) λhc=>?_|(apply zG;apply xO;(first|(refine vG 45 ?_;first|refine yE (zL (qU _ _ zB zB) Z Z Z Z Z) Z ?_|refine qB (zL (qU _ _ zB zB) Z Z Z Z Z) Z Z Z ?_|refine ZR (zL (qU _ _ zB zB) Z Z Z Z Z) Z Z Z ?_)))|fail))
 generalize nx Y 3=n3,ad Y=B at *
 refine jK (st':=⟨[(0,.ptr 1000 0 0),(1,iA u),(4,.ptr 4 0 0),(5,.ptr 5 0 0),(33,iA (1+n3)),(34,iA 0)],
   [(1000,CO B),(4,.box [.s (.slice none 0 0),.s (.slice none 0 0),iA 0,iA 0,iA 0,iA 0]),(5,.box [zD wD E,.s (.slice none 0 0),iA (1+S),iA U,iA (1+V),iA W])]⟩) [1000,4,5] [0,1,4,5,33,34] Z (by
  have e1:zD wD E= .sl false (List.take (E.map wD).length (List.drop 0 (E.map wD))):=by
   rw[zAu,zAb];rfl
  rw[e1]
  rfl) ?_
 refine qJ 5 1 1002 8 Z Z Z Z Z ?_
 refine wF (λn st=>∃k:Nat,n+k=M/\st=⟨[(0,.ptr 1000 0 0),(1,iA u),(4,.ptr 4 0 0),(5,.ptr 5 0 0),(33,iA (1+n3)),(34,iA k)],
   [(1000,CO (PG B u k).2),(4,.box [.s (.slice none 0 0),.s (.slice none 0 0),iA 0,iA 0,iA 0,iA 0]),(5,.box [zD wD E,.ref 1002 0 ((PG B u k).1.map vX).length,iA (1+S),iA U,iA (1+V),iA W]),(1002,.arr 8 ((PG B u k).1.map vX) true)]⟩)
  M [1000,4,5,1002] [0,1,4,5,33,34] Z ⟨0,rfl,rfl⟩ ?_
 clear n hi I;rintro n st ⟨k,hk,rfl⟩;by_cases I:k<M
 .have A:(PG B u (k+1)).1.map vX=(PG B u k).1.map vX++[vX (Rn (PG B u k).2 k u)]:=by rw[Mp];exact zAf
  have z:(PG B u (k+1)).2=ad (Hr (PG B u k).2):=L2 B u k;have c:=ac k I;have G:=aG B u k;clear ac;generalize L:PG B u (k+1)=q' at A z;generalize PG B u k=q at *;obtain⟨ql,R⟩:=q;dsimp only at A z G c⊢;generalize Rn R k u=jf,ad (Hr R)=jd at *;refine zQ c ?_;exact⟨n-1,zB,k+1,zB,by rw[L,A,z];rfl⟩
 obtain rfl:k=M:=by omega
 rw[<-eg];clear eg ac;refine WW ?_;exact zP [1000] Z Z (zAv (λx=>AV.agg [zD wD E,AV.sl false x,iA (1+S),iA U,iA (1+V),iA W]) zAb) Z
def B7 (c:Cf):Prop:=ln c.js<=4/\∀j∈c.js,1<=ln j.ph/\j.ph.length<=8
theorem B7.at {c:Cf} (h:B7 c) {j:Int} (u:0<=j) (h1:j<((c.js.map wD).length:Int)):1<=(c.js.getD j.toNat dd).ph.length/\(c.js.getD j.toNat dd).ph.length<=8:=by grind [B7,wD]
def me (l:List Int):Prop:=∀x∈l,0<=x/\x<=4294967295
theorem me.app {a b:List Int} (h1:me a) (h2:me b):me (a++b):=λx hx=>(zA5.1 hx).elim (h1 x) (h2 x)
theorem me.cons {x:Int} {b:List Int} (h1:0<=x/\x<=4294967295) (h2:me b):me (x::b):=λy u=>(zBv.1 u).elim (λe=>e▸h1) (h2 y)
theorem me.nil:me []:=λx hx=>by cases hx
def aH (k:Int):zO 236 [iA k] [] (bA (decide (1<=k/\k<=12))) []:=by
 cases hb:decide (1<=k/\k<=12)with
 |false=>(rw[zAk]at hb;(refine eM call236 λF hF=>?_);((refine WW (I2 (λhc=>?_) λhc=>?_)));all_goals (first|exact zI|exact KP|exact MO))
 |true=>(rw[zAe]at hb;(refine eM call236 λF hF=>?_);((refine WW ?_));all_goals (first|exact zI|exact KP|exact MO))
def cM (k:Int):zO 255 [iA k] [] (bA (decide (1<=k/\k<=12))) []:=by
 cases hb:decide (1<=k/\k<=12)with
 |false=>(rw[zAk]at hb;(refine eM call255 λF hF=>?_);((refine WW (I2 (λhc=>?_) λhc=>?_)));all_goals (first|exact zI|exact KP|exact MO))
 |true=>(rw[zAe]at hb;(refine eM call255 λF hF=>?_);((refine WW ?_));all_goals (first|exact zI|exact KP|exact MO))
theorem Fg (u z:Nat) (c:Int):∀(l:List Int) (i:Nat),(XT u z c i l).length<=6*ln l
 | [],i=>by simp[XT]
 |x::r,i=>by
  have h1:=Fg u z c r (i+1);have h2:=fD x;rw[XT,zAh,zAh,zAm]
  have A:(if i=u/\z≠0 then [c]else []).length<=1:=by split<;>simp
  omega
def cy (u c:Nat) (d:List Int):Bool:=decide (ln d=0/\(u=0\/1<=c))
def re (k:Int):vD k=0\/vD k=2\/vD k=4:=by grind [vD]
def Ze (k:Int):qQ k<=3:=by grind [qQ]
theorem Wb (k:Int) (C:1<=k) (h1:k<=12) (m:Ms) (c:Nat) (hk:m.kind=k) (ht:ln m.tok=10) (hd:ln m.data<=100000) (E:∀x∈m.args,0<=x/\x<=4294967295) (hc:ln m.args=qQ k+c*vD k) (I:c<=3):
  zO 205 [yC m] [] (bA (cy (vD k) c m.data)) []:=by
 have u:=md k C h1;have z:=aH k;have hf:=Ze k;rw[zAd ⟨C,h1⟩]at z;have S:=PU k C h1 m c hk ht hd E (by have:=re k;rcases this with h|h|h<;>rw[h]at hc<;>omega) (λ_=>hc) I
 have av:(ZW (qQ k) (vD k) c m).length<=10+(6*ln m.args+(1+ln m.data)):=by
  have h1:=Fg (qQ k) (vD k) c m.args 0
  have h3:(if vD k≠0/\m.args.length=qQ k then [(0:Int)]else []).length<=1:=by split<;>simp
  unfold ZW;rw[zAh,zAh,zAh];omega
 have ar:=zA yA (ZW (qQ k) (vD k) c m);have V:=re k;subst hk;generalize ZW (qQ m.kind) (vD m.kind) c m=pl at *;generalize qQ m.kind=A at *;generalize vD m.kind=W at *;unfold od at u;have au:=zA yA m.tok;have ag:=zA iA m.args;have ap:=zA yA m.data
 cases hb:cy W c m.data with
 | true=>
  unfold cy at hb;rw[zAe]at hb;obtain⟨Y,ac⟩:=hb
  rcases V with rfl|rfl|rfl
  .rw[Os Z,Os Z]at u;refine eM call205 λF hF=>?_
   refine yJ (xV u z) ?_;refine zU (m.args) [1] [1] [1,97,98] [99,1,97,98] Z (λi ga T U=>⟨(99,iA i)::T,U⟩) (Lq ?_ ?_)
   .intro i ga x post hx hi;have hy:=yI iA hx hi;have B:=zV hx hi;have R:=E x (yV hx);clear hx;refine WW ?_;rfl
   .exact lk S
  all_goals
   rw[Of yX,Of yX]at u;have M:(((m.args.map iA).length:Int)-(A:Int)).tmod ((2:Nat):Int)=0:=by rw[zBm zB];omega
   have O:(((m.args.map iA).length:Int)-(A:Int)).tmod ((4:Nat):Int)=(((m.args.map iA).length:Int)-(A:Int)) % 4:=zBm zB;refine eM call205 λF hF=>?_
   refine yJ (xV u z) ?_;refine zU (m.args) [1] [1] [1,97,98] [99,1,97,98] Z (λi ga T U=>⟨(99,iA i)::T,U⟩) (Lq ?_ ?_)
   .intro i ga x post hx hi;have hy:=yI iA hx hi;have B:=zV hx hi;have R:=E x (yV hx);clear hx;refine WW ?_;rfl
   .exact lk S
 | false=>
  unfold cy at hb;rw[zAk]at hb
  rcases V with rfl|rfl|rfl
  .rw[Os Z,Os Z]at u;have L:ln m.data≠0:=λh=>hb ⟨h,.inl Z⟩
   refine eM call205 λF hF=>?_
   exact ld (xV u z)
  all_goals
   rw[Of yX,Of yX]at u;have M:(((m.args.map iA).length:Int)-(A:Int)).tmod ((2:Nat):Int)=0:=by rw[zBm zB];omega
   have O:(((m.args.map iA).length:Int)-(A:Int)).tmod ((4:Nat):Int)=(((m.args.map iA).length:Int)-(A:Int)) % 4:=zBm zB;by_cases G:1<=c
   .have L:ln m.data≠0:=λh=>hb ⟨h,.inr G⟩
    refine eM call205 λF hF=>?_
    exact ld (xV u z)
   ·(refine eM call205 λF hF=>?_)
    exact ld (xV u z)
theorem JW:∀l:List Int,((l.map gN).flatten).length<=5*ln l
 | []=>by simp
 |x::l=>by
  have h1:=JW l;have h2:=fD x;rw[zBk,zDb,zAh,zAm];omega
theorem Kp (u:Nat) (c:Int):∀(l:List Int) (i:Nat),XT u 0 c i l=(l.map gN).flatten
 | [],i=>rfl
 |x::l,i=>by
  rw[XT,Kp u c l (i+1),Of (λh=>h.2 Z)];rfl
theorem Jp (u z:Nat) (c:Int):∀(l:List Int) (i:Nat),u<i->XT u z c i l=(l.map gN).flatten
 | [],i,_=>rfl
 |x::l,i,h=>by
  rw[XT,Jp u z c l (i+1) zB,Of (λh2=>by omega)];rfl
theorem DP (u z:Nat) (c:Int) (B:z≠0) (f:List Int) (A:f≠[]):∀(a:List Int) (i:Nat),i+ln a=u->XT u z c i (a++f)=(a.map gN).flatten++([c]++(f.map gN).flatten)
 | [],i,h=>by
  cases f with
  |nil=>exact absurd Z A
  |cons x f=>
   have hi:i=u:=by simpa using h
   rw[zCv,XT,Os ⟨hi,B⟩,Jp u z c f (i+1) zB];rfl
 |x::a,i,h=>by
  rw[zC0,XT,DP u z c B f A a (i+1) (by rw[zAm]at h;omega),Of (λh2=>by rw[zAm]at h;omega),zCv,zBk,zDb,zA0]
theorem yj (k:Int) (h0:1<=k) (h1:k<=12) (p:List Int) (hb:BY p) (hn:ln p<=100000):zO 237 [iA k,zD yA p] [] (j5 k (p.take 10) (KE (qQ k) (vD k) p)) []:=by
 have hl:=zA yA p;have I:=md k h0 h1;have V:=aH k;rw[zAd ⟨h0,h1⟩]at V;have hf:=Ze k;have hg:=re k;by_cases a7:ln p<10
 .rw[show KE (qQ k) (vD k) p=none from Os (.inr a7)]
  show zO 237 [iA k,zD yA p] [] (.tup [yC ⟨0,[],[],[]⟩,iA 6]) []
  unfold od at I;refine eM call237 λF hF=>?_
  exact ld (xV I V)
 have a3:BY (p.drop 10):=λy hy=>hb y (zBj hy)
 have bb:(p.drop 10).length<=100000:=by rw[zA8];omega
 have bu:((p.take 10).map yA).length=10:=by rw[zAa,zAw];omega
 have b4:((p.take (10:Int).toNat).map yA).length=10:=bu;have R:=TM (p.drop 10) (qQ k) a3 bb zB
 cases u:UF (qQ k) (p.drop 10)with
 | none=>
  have e:KE (qQ k) (vD k) p=none:=by
   unfold KE;rw[u]
   split<;>rfl
  rw[e];rw[u]at R
  show zO 237 [iA k,zD yA p] [] (.tup [yC ⟨0,[],[],[]⟩,iA 6]) []
  unfold Hf at R;unfold od at I;refine eM call237 λF hF=>?_
  (have gd:=I;have gn:=V;have gt:=R;(repeat' (first|refine uD ?_|apply yZ|apply xM|intro hc|(apply zG;first|(apply yG;refine eG tok Z Z Z Z Z Z (zZ _ _ (λ_=>rfl)) Z Z Z zB Z Z Z ?_))|fail))<;>clear gd gn gt)
  exact zI
 |some q=>
 obtain⟨a,r⟩:=q;obtain⟨ha,a4,au,E⟩:=aL _ _ _ _ a3 u;have b6:=JW a
 have br:ln p=10+(((a.map gN).flatten).length+ln r):=by
  have:=zAv List.length E;rw[zAh,zA8]at this;omega
 have z:p=p.take 10++((a.map gN).flatten++r):=by rw[<-E,zDs]
 have ca:=zA yA r;have b7:=zA iA a;have a1:ln r<=100000:=by omega
 rw[u]at R;unfold Hf at R
 rcases Nat.eq_zero_or_pos (vD k)with O|O
 .have U:=Wb k h0 h1 ⟨k,p.take 10,a,r⟩ 0 Z GM a1 au (by rw[O];exact ha) zB;have v2:=PU k h0 h1 ⟨k,p.take 10,a,r⟩ 0 Z GM a1 au (by show (ln a)<=1000;omega) (λh=>absurd O h) zB;rw[O]at U v2 I⊢;unfold od at I;by_cases hr:r=[]
  .subst hr
   have e:KE (qQ k) 0 p=some a:=by
    unfold KE;rw[Of (by rw[zBh]at br;omega),u];rfl
   have e2:ZW (qQ k) 0 0 ⟨k,p.take 10,a,[]⟩=p:=by
    unfold ZW;rw[Kp]
    conv=>rhs;rw[z]
    simp
   rw[e];rw[show((0:Nat):Int)=0 from Z,e2]at v2;rw[show cy 0 0 ([]:List Int)=true from Z]at U;have bd:=QE p;clear e2 z u E
   show zO 237 [iA k,zD yA p] [] (.tup [yC ⟨k,p.take 10,a,[]⟩,iA 0]) []
   generalize qQ k=fx at *;refine eM call237 λF hF=>?_
   (have gd:=I;have gn:=V;have gt:=R;have gv:=U;have ka:=v2;(repeat' (first|refine uD ?_|apply yZ|apply xM|intro hc|(apply zG;first|(apply yG;first|(refine kL [4,6,7] [0,1,4,5,6,7,93] Z ?_;(conv=>whnf);(try simp only[zAu,zAb]);refine jJ tok Z Z Z Z Z Z (zZ _ _ (λ_=>rfl)) Z Z Z zB Z ?_)|refine eG tok Z Z Z Z Z Z (zZ _ _ (λ_=>rfl)) Z Z Z zB Z Z Z ?_))|fail))<;>clear gd gn gt gv ka)
   exact zI
  .have bs:ln r≠0:=λh=>hr (zBa h)
   have e:KE (qQ k) 0 p=none:=by
    unfold KE;rw[u];split
    .rfl
    .show(if(0:Nat)=0 then(if r=[]then some a else none)else _)=none
     rw[Os Z,Of hr]
   rw[e];rw[show cy 0 0 r=false from zAc (λh=>bs h.1)]at U;clear v2 z u E
   show zO 237 [iA k,zD yA p] [] (.tup [yC ⟨0,[],[],[]⟩,iA 6]) []
   generalize qQ k=fx at *;refine eM call237 λF hF=>?_
   (have gd:=I;have gn:=V;have gt:=R;have gv:=U;(repeat' (first|refine uD ?_|apply yZ|apply xM|intro hc|(apply zG;first|(apply yG;first|(refine kL [4,6,7] [0,1,4,5,6,7,93] Z ?_;(conv=>whnf);(try simp only[zAu,zAb]);refine jJ tok Z Z Z Z Z Z (zZ _ _ (λ_=>rfl)) Z Z Z zB Z ?_)|refine eG tok Z Z Z Z Z Z (zZ _ _ (λ_=>rfl)) Z Z Z zB Z Z Z ?_))|fail))<;>clear gd gn gt gv)
   exact zI
 have bl:vD k<=4:=by omega
 have Y:=TM r 1 a4 a1 zB;unfold od at I;rw[Of zB,Of zB]at I
 cases A:UF 1 r with
 | none=>
  have e:KE (qQ k) (vD k) p=none:=by
   unfold KE;rw[u];split
   .rfl
   .show(if vD k=0 then _ else match UF 1 r with|none=>none|some (c,r2)=>_)=none
    rw[Of zB,A]
  rw[e];rw[A]at Y;unfold Hf at Y
  show zO 237 [iA k,zD yA p] [] (.tup [yC ⟨0,[],[],[]⟩,iA 6]) []
  clear z u E A e;generalize qQ k=fx,vD k=gr at *;refine eM call237 λF hF=>?_
  (have gd:=I;have gn:=V;have gt:=R;have gv:=Y;(repeat' (first|refine uD ?_|apply yZ|apply xM|intro hc|(apply zG;first|(apply yG;first|(refine kL [4,6,7] [0,1,4,5,6,7,93] Z ?_;(conv=>whnf);(try simp only[zAu,zAb]);refine jJ tok Z Z Z Z Z Z (zZ _ _ (λ_=>rfl)) Z Z Z zB Z ?_)|refine eG tok Z Z Z Z Z Z (zZ _ _ (λ_=>rfl)) Z Z Z zB Z Z Z ?_))|fail))<;>clear gd gn gt gv)
  exact zI
 |some q2=>
 obtain⟨c,r2⟩:=q2;obtain⟨a5,ap,ba,B⟩:=aL _ _ _ _ a4 A
 obtain⟨v,rfl⟩:∃v,c=[v]:=by
  cases c with
  |nil=>cases a5
  |cons v c=>cases c with
   |nil=>exact⟨v,rfl⟩
   |cons w c=>simp at a5
 have bx:=(ba v zW).1
 have a8:ln r2<=100000:=by
  have:=zAv List.length B;rw[zAh]at this;omega
 rw[A]at Y;unfold Hf at Y
 have eD:¬(200<ln p\/p.length<10)->KE (qQ k) (vD k) p=if v<1\/3<v then none else match UF (v.toNat*vD k) r2 with
   |none=>none
   |some (f,W)=>if W=[]then some (a++f)else none:=λh=>by
  unfold KE;rw[Of h,u]
  show(if vD k=0 then _ else match UF 1 r with|none=>none|some (c,r2)=>_)=_
  rw[Of zB,A];rfl
 by_cases b0:3<v
 .have e:KE (qQ k) (vD k) p=none:=by
   by_cases h:200<ln p\/p.length<10
   .exact Os h
   .rw[eD h,Os (.inr b0)]
  rw[e]
  show zO 237 [iA k,zD yA p] [] (.tup [yC ⟨0,[],[],[]⟩,iA 6]) []
  clear z u E A e eD B;generalize qQ k=fx,vD k=gr at *;refine eM call237 λF hF=>?_
  (have gd:=I;have gn:=V;have gt:=R;have gv:=Y;(repeat' (first|refine uD ?_|apply yZ|apply xM|intro hc|(apply zG;first|(apply yG;first|(refine kL [4,6,7] [0,1,4,5,6,7,93] Z ?_;(conv=>whnf);(try simp only[zAu,zAb]);refine jJ tok Z Z Z Z Z Z (zZ _ _ (λ_=>rfl)) Z Z Z zB Z ?_)|refine eG tok Z Z Z Z Z Z (zZ _ _ (λ_=>rfl)) Z Z Z zB Z Z Z ?_))|fail))<;>clear gd gn gt gv)
  exact zI
 have a2:v.toNat*vD k<=12:=zBi (zDa (show v.toNat<=3 by omega) bl) yX;have M:((v.toNat*vD k:Nat):Int)=v*(vD k:Int):=by rw[zE0,zEa zB]
 have c4:=TM r2 (v.toNat*vD k) ap a8 zB;have hm:0<=v*(vD k:Int)/\v*(vD k:Int)<=12:=by rw[<-M];omega
 cases C:UF (v.toNat*vD k) r2 with
 | none=>
  have e:KE (qQ k) (vD k) p=none:=by
   by_cases h:200<ln p\/p.length<10
   .exact Os h
   .rw[eD h,C]
    split<;>rfl
  rw[e];rw[C,M]at c4;unfold Hf at c4
  show zO 237 [iA k,zD yA p] [] (.tup [yC ⟨0,[],[],[]⟩,iA 6]) []
  clear z u E A e eD B C M a2;generalize qQ k=fx,vD k=gr at *;refine eM call237 λF hF=>?_
  (have gd:=I;have gn:=V;have gt:=R;have gv:=Y;have ka:=c4;(repeat' (first|refine uD ?_|apply yZ|apply xM|intro hc|(apply zG;first|(apply yG;first|(refine kL [4,6,7] [0,1,4,5,6,7,93] Z ?_;(conv=>whnf);(try simp only[zAu,zAb]);refine jJ tok Z Z Z Z Z Z (zZ _ _ (λ_=>rfl)) Z Z Z zB Z ?_)|refine eG tok Z Z Z Z Z Z (zZ _ _ (λ_=>rfl)) Z Z Z zB Z Z Z ?_))|fail))<;>clear gd gn gt gv ka)
  exact zI
 |some q3=>
 obtain⟨f,W⟩:=q3;obtain⟨G,b1,bk,L⟩:=aL _ _ _ _ ap C;have b9:=zA iA f;have b2:ln f<=12:=by omega
 have b3:=zA yA W
 have ar:ln W<=100000:=by
  have:=zAv List.length L;rw[zAh]at this;omega
 rw[C,M]at c4;unfold Hf at c4;have S:(a++f).length=qQ k+v.toNat*vD k:=by rw[zAh,ha,G]
 have ag:∀x∈a++f,0<=x/\x<=4294967295:=λx hx=>by
  rcases zA5.1 hx with h|h
  .exact au x h
  .exact bk x h
 have U:=Wb k h0 h1 ⟨k,p.take 10,a++f,W⟩ v.toNat Z GM ar ag S zB;have v2:=PU k h0 h1 ⟨k,p.take 10,a++f,W⟩ v.toNat Z GM ar ag (by show(a++f).length<=1000;omega) (λ_=>S) zB
 have ac:∀t:List Int,yC ⟨k,t,a++f,W⟩= .agg [iA k,zD yA t,.sl false (a.map iA++f.map iA),zD yA W]:=λt=>by
  rw[<-zAf];rfl
 rw[ac]at U v2;by_cases av:W=[]/\1<=v
 .obtain⟨rfl,a9⟩:=av;have b5:=JW f;have a6:gN v=[v]:=TN zB
  have az:r=[v]++(f.map gN).flatten:=by
   rw[B,L,zA2];simp[a6]
  have bf:f≠[]:=λh=>by
   rw[h]at G;have:0<v.toNat*vD k:=Nat.mul_pos zB O;simp at G;omega
  have e2:ZW (qQ k) (vD k) (v.toNat:Int) ⟨k,p.take 10,a++f,[]⟩=p:=by
   unfold ZW;rw[Of (λh=>by have:=h.2;rw[S]at this;have h3:0<v.toNat*vD k:=Nat.mul_pos zB O;omega)]
   show(p.take 10++XT (qQ k) (vD k) (v.toNat:Int) 0 (a++f))++([]++[])=p
   rw[DP _ _ _ zB f bf a 0 zB,zEa bx,zA2,zA2,<-az];exact z.symm
  have ax:¬(200<ln p\/p.length<10):=by
   have:=zAv List.length az;rw[zAh,zCi]at this;omega
  have e:KE (qQ k) (vD k) p=some (a++f):=by
   rw[eD ax,Of zB,C];rfl
  rw[e];rw[e2]at v2;rw[show cy (vD k) v.toNat ([]:List Int)=true from zAd ⟨rfl,.inr zB⟩]at U;have bd:=QE p
  show zO 237 [iA k,zD yA p] [] (.tup [yC ⟨k,p.take 10,a++f,[]⟩,iA 0]) []
  rw[ac];clear z u E A e eD B C M a2 e2 az a6 ac S G L;generalize qQ k=fx,vD k=gr at *;refine eM call237 λF hF=>?_
  (have gd:=I;have gn:=V;have gt:=R;have gv:=Y;have ka:=c4;have kz:=U;have zc7:=v2;(repeat' (first|refine uD ?_|apply yZ|apply xM|intro hc|(apply zG;first|(apply yG;first|(refine kL [4,6,7] [0,1,4,5,6,7,93] Z ?_;(conv=>whnf);(try simp only[zAu,zAb]);refine jJ tok Z Z Z Z Z Z (zZ _ _ (λ_=>rfl)) Z Z Z zB Z ?_)|refine eG tok Z Z Z Z Z Z (zZ _ _ (λ_=>rfl)) Z Z Z zB Z Z Z ?_))|fail))<;>clear gd gn gt gv ka kz zc7)
  exact zI
 .have e:KE (qQ k) (vD k) p=none:=by
   by_cases h:200<ln p\/p.length<10
   .exact Os h
   .rw[eD h];by_cases a9:v<1
    .rw[Os (.inl a9)]
    .rw[Of zB,C];exact Of λh3=>av ⟨h3,zB⟩
  rw[e]
  rw[show cy (vD k) v.toNat W=false from zAc (λh=>by
   rcases h with⟨h3,h4⟩
   exact av ⟨zBa h3,zB⟩)]at U
  show zO 237 [iA k,zD yA p] [] (.tup [yC ⟨0,[],[],[]⟩,iA 6]) []
  clear z u E A e eD B C M a2 ac S G L v2;generalize qQ k=fx,vD k=gr at *;refine eM call237 λF hF=>?_
  (have gd:=I;have gn:=V;have gt:=R;have gv:=Y;have ka:=c4;have kz:=U;(repeat' (first|refine uD ?_|apply yZ|apply xM|intro hc|(apply zG;first|(apply yG;first|(refine kL [4,6,7] [0,1,4,5,6,7,93] Z ?_;(conv=>whnf);(try simp only[zAu,zAb]);refine jJ tok Z Z Z Z Z Z (zZ _ _ (λ_=>rfl)) Z Z Z zB Z ?_)|refine eG tok Z Z Z Z Z Z (zZ _ _ (λ_=>rfl)) Z Z Z zB Z Z Z ?_))|fail))<;>clear gd gn gt gv ka kz)
  exact zI
def xj (l:List Rq) (q:Int) (hv:bW l) (z:¬(ln l:Int)<=q):zO 356 [zD zX l,iA q] [] (bA false) []:=by
 have hl:=zA zX l;have u:=hv.n4;refine eM call356 λF hF=>?_
 exact lc
def Ye (l:List Rq) (q:Int) (hv:bW l) (W:¬(ln l:Int)<=q):zO 335 [zD zX l,iA q] [] (bA false) []:=by
 have hl:=zA zX l;have V:=hv.n4;refine eM call335 λF hF=>?_
 refine WW ?_;refine zN (ln l) [] [] [0,1,7,8] [9,0,1,7,8] Z (λi T U=>⟨(9,iA i)::T,U⟩) (Lq ?_ ?_)
 .intro i hi;have Y:=zJ zX l i hi;have B:l.getD i dd∈l:=by simp[ny,hi]
  obtain⟨i0,i1,v0,v1,R,S,t0,t1,z⟩:=hv.ok _ B;have C:=wS (l.getD i dd).id 0 4294967295;have E:=wS (l.getD i dd).vh 0 4294967295;have G:=wS (l.getD i dd).cls 0 3;have L:=wS (l.getD i dd).til 0 2147483648;have I:=EP (l.getD i dd).legs (by have:=VR z;omega);rw[zAd zB]at C E G L;rw[z]at I;by_cases A:0<i
  .have u:=yF zX l ((i:Int)-1) zB zB;rw[show((i:Int)-1).toNat=i-1 by omega]at u;have O:(l.map zX)[((i:Int)-1).toNat]? =some (zX (l.getD (i-1) dd)):=by rw[show((i:Int)-1).toNat=i-1 by omega];exact u
   have M:=hv.lt A hi;clear u B z;generalize l.getD i dd=t,l.getD (i-1) dd=p at *;refine yJ (KO C E G L I) ?_;rfl
  .obtain rfl:i=0:=by omega
   clear B z;generalize l.getD 0 dd=t at *;refine yJ (KO C E G L I) ?_;rfl
 .exact lc
def wj (l:List Rq) (q id:Int) (v:Vh) (u:Int) (x:List Lg) (f4:Int) (hv:bW l) (A:¬(ln l:Int)<=q):
  zO 355 [zD zX l,iA q,iA id,vE v,iA u,zD yN x,iA f4] [] (.tup [zD zX [],iA 1]) []:=by
 have z:=xj l q hv A;refine eM call355 λF hF=>?_
 exact lk z
def Xe (l:List Rq) (q id:Int) (v:Vh) (u:Int) (x:List Lg) (f4:Int) (hv:bW l) (A:¬(ln l:Int)<=q):
  zO 333 [zD zX l,iA q,iA id,vE v,iA u,zD yN x,iA f4] [] (.tup [zD zX [],iA 1]) []:=by
 have z:=Ye l q hv A;refine eM call333 λF hF=>?_
 exact lk z
def JX {r x:Rq}:x∈eE l r->x=r\/x∈l:=λh=>by
 unfold eE at h
 rcases zA5.1 h with h|h
 .exact .inr (zB5 h)
 .rcases zBv.1 h with h|h
  .exact .inl h
  .exact .inr (zBj h)
def C2 {q id u:Int} {v:Vh} {x:List Lg} (hv:bW l) (z:NI l q id u x=0) (G:0<=v.id) (I:v.id<=4294967295) (L:0<=v.cls) (M:v.cls<=3) (R:0<=f4) (S:f4<=1073741824):bW (eE l (fU id v u x f4)):=by
 have h1:0<=id/\id<=4294967295/\1<=u/\u<=600/\sa x=true:=by
  grind [NI,eE,fU]
 rw[NI,Of (λh=>h h1)]at z
 have hh:jF l id=false:=by
  grind
 rw[Of Sa]at z;have O:¬(q<=ln l\/4<=(ln l:Int)):=λh=>by rw[Os h]at z;cases z
 have E:∀r∈l,r.id≠id:=by simpa [jF]using hh
 have C:=Rd l id;refine⟨λr A=>?_,?_,?_⟩
 .rcases JX A with rfl|A
  .exact⟨h1.1,h1.2.1,G,I,L,M,by show 0<=f4+u;omega,by show f4+u<=2147483648;omega,h1.2.2.2.2⟩
  .exact hv.ok r A
 .have hs:=hv.so;unfold eE
  show((l.take (VQ l id))++fU id v u x f4::l.drop (VQ l id)).Pairwise _
  rw[zEn,zFg];have B:=hs;rw[<-zDs (VQ l id) l,zEn]at B
  grind [NI,eE,fU,VQ,List.mem_iff_getElem,List.length_take,Pd,ny,List.mem_of_mem_drop,Od,List.drop_eq_getElem_cons,List.pairwise_cons,List.drop_eq_nil_of_le]
 all_goals grind [NI,eE,fU]
def A2 {g:Lg} {p:Int×Int} (u:NJ g=true) (h:HZ f4 g p=true):NJ (CN f4 g p)=true:=by grind [NJ,HZ,CN,CP]
theorem Eg :∀(gs:List Lg) (w:List (Int×Int)) (ga u:List Lg),u.map (·.jn)=ga.map (·.jn)->ln w=ln gs->(gs.zipWith (HZ f4) w).all id=true->jG ga gs=true->jG u (gs.zipWith (CN f4) w)=true
 | [],w,ga,u,_,_,_,_=>by cases w<;>rfl
 |g::gs,[],ga,u,_,hl,_,_=>by simp at hl
 |g::gs,p::w,ga,u,A,hl,z,h=>by
  rw[zDp,zFi,zAn]at z;rw[jG,zAn,zAn]at h;obtain⟨h1,h2,B⟩:=h;rw[zDp,jG,zAn,zAn];refine⟨A2 h1 z.1,?_,Eg gs w (ga++[g]) (u++[CN f4 g p]) (by rw[zAf,zAf,A];rfl) Na z.2 B⟩;have e:∀l:List Lg,(l.any λy=>y.jn==g.jn)=(l.map (·.jn)).any (· ==g.jn):=λl=>by rw[List.any_map];rfl
  show(!(u.any λy=>y.jn==g.jn))=true
  rw[e,A,<-e];exact h2
def j3 {id:Int} {w:List (Int×Int)} (hv:bW l) (C:dD l id w f4=0):bW (XU l id w f4):=by
 have hh:jF l id=true:=by
  grind [dD,XU]
 obtain⟨ga,x,post,hL,hx,_,E,_⟩:=PW hh;rw[dD,Os hh,E]at C
 have B:ln w=ln x.legs/\va x.legs w f4=true:=by
  grind
 have u:=hv.ok x Qa;rw[EL hL hv hx];have hs:=hv.so;have A:=hv.n4;rw[hL]at hs A;rw[zEn,zFg]at hs;refine⟨λr z=>?_,?_,by simpa using A⟩
 .rw[zA5,zBv]at z
  rcases z with z|rfl|z
  .exact hv.ok r (by rw[hL];simp[z])
  .refine⟨u.i0,u.i1,u.v0,u.v1,u.c0,u.c1,u.t0,u.t1,?_⟩;have h1:=VR u.lg
   have h2:jG [] x.legs=true:=by
    have:=u.lg
    grind [dD,XU,sa]
   unfold sa;rw[zAn];exact⟨zAd (by rw[List.length_zipWith];omega),Eg x.legs w [] [] Z B.1 B.2 h2⟩
  .exact hv.ok r (by rw[hL];simp[z])
 all_goals grind [dD,XU,List.pairwise_cons]
def DQ (r:Rg) (hb:EM r):zO 163 [qD r] [] (qD r) []:=by
 have hs:=hb.s;have B:=hb.l;have C:=vJ r.ag.sec zB;have E:=RX r.ag.lim zB;have G:=hb.tk.n;have hv:=hb.v;have u:=TO r.tk zB;have z:=ja r.vh zB;have A:=zA yP r.tk;refine eM call163 λF hF=>?_
 refine yJ (kC C E u) ?_;refine zN ((r.tk.map yP).length) [1001,1,2] [1,2] [1,2,22] [23,1,2,22] Z (λi T U=>⟨(23,iA i)::T,(1001,.arr 6 (gO i (r.tk.map yP)) false)::U⟩) (Lq ?_ ?_)
 .intro i hi;have hi':i<ln r.tk:=by omega
  have I:(gO i (r.tk.map yP))[i]? =some (yP (r.tk.getD i dd)):=zJ yP r.tk i hi';have e:=jW yP r.tk i hi';have u:=vJ (r.tk.getD i dd).sec (by have:=hb.tk.s (r.tk.getD i dd) XD;omega);generalize (r.tk.getD i dd)=t,gO i (r.tk.map yP)=xs,gO (i+1) (r.tk.map yP)=ys at *;subst e;refine zQ u ?_;rfl
 ·(refine zQ z ?_)
  exact zH [] Z Z (zAv (Q9 r) zAb) Z
structure xP where
 rg:Rg
 rq:List Rq
 dr:List (List Int)
 au:List Bool
def vW (l:List Int):AV:=zD yA l
def xC (r:Rg) (a b c:AV):AV:= .agg [iA r.num,zD yA r.ag.sec,iA r.ag.rights,iA r.ag.cls,zD iA r.ag.lim,iA r.ag.req,iA r.ag.ses,iA r.ag.rate,iA r.ag.burst,zD yP r.tk,zD vE r.vh,iA r.bk.level,iA r.bk.rate,iA r.bk.burst,a,b,c]
def zK (d:xP):AV:=xC d.rg (zD zX d.rq) (zD vW d.dr) (zD bA d.au)
structure cN (d:xP):Prop where
 rg:EM d.rg
 q:d.rq.length<=1000
 g:∀r∈d.rq,r.legs.length<=1000
 n:d.dr.length<=1000
 e:∀b∈d.dr,b.length<=1000
 a:d.au.length<=1000
def SO (l:List Rq) (hl:ln l<=1073741824):zO 164 [zD zX l] [] (.ref 1001 0 (l.map zX).length) [(1001,.arr 5 (l.map zX) false)]:=by
 have u:=zA zX l;refine eM call164 λF hF=>?_
 refine xI 0 Z (λcap hx=>?_) ?_
 .have:l=[]:=by simpa using hx
  subst this
  (repeat' (first|refine Md ?_|apply yZ|apply xM|intro hc|fail))
  refine qK 2 1001 5 Z Z Z (xG ?_);exact zP [1001] Z Z Z Z
 .repeat' (first|(apply zG;first|refine wX tok Z Z ?_|(apply xZ;refine yE (yU tok (.inl ⟨rfl,rfl⟩) Z Z Z Z) Z ?_)|(apply yR;refine qB (nw:=[1001]) (yT tok 1001 (xs:=[]) Z Z Z Z Z Z Z Z Z) Z Z Z ?_)|(apply yG;refine xW tok Z Z Z Z Z Z Z (zZ _ _ (λ_=>rfl)) Z Z Z zB Z ?_)|apply uT)|(first|apply xK|apply xF|refine vQ Z ?_|refine yM Z ?_|refine yB Z ?_|refine xU Z (λhc=>?_) λhc=>?_|apply xB|apply xG|apply xJ|apply xE))
  exact zP [1001] Z Z Z Z
def JY (l:List (List Int)) (hl:ln l<=1073741824):zO 166 [zD vW l] [] (.ref 1002 0 (l.map vW).length) [(1002,.arr 1 (l.map vW) false)]:=by
 have u:=zA vW l;refine eM call166 λF hF=>?_
 refine xI 0 Z (λcap hx=>?_) ?_
 .have:l=[]:=by simpa using hx
  subst this
  (repeat' (first|refine Md ?_|apply yZ|apply xM|intro hc|fail))
  refine qK 2 1002 1 Z Z Z (xG ?_);exact zP [1002] Z Z Z Z
 .repeat' (first|(apply zG;first|refine wX tok Z Z ?_|(apply xZ;refine yE (yU tok (.inl ⟨rfl,rfl⟩) Z Z Z Z) Z ?_)|(apply yR;refine qB (nw:=[1002]) (yT tok 1002 (xs:=[]) Z Z Z Z Z Z Z Z Z) Z Z Z ?_)|(apply yG;refine xW tok Z Z Z Z Z Z Z (zZ _ _ (λ_=>rfl)) Z Z Z zB Z ?_)|apply uT)|(first|apply xK|apply xF|refine vQ Z ?_|refine yM Z ?_|refine yB Z ?_|refine xU Z (λhc=>?_) λhc=>?_|apply xB|apply xG|apply xJ|apply xE))
  exact zP [1002] Z Z Z Z
def Vb (l:List Bool) (hl:ln l<=1073741824):zO 167 [zD bA l] [] (zD bA l) []:=by
 have u:=zA bA l;refine eM call167 λF hF=>?_
 refine xI 0 Z (λcap hx=>?_) ?_
 .have:l=[]:=by simpa using hx
  subst this;exact lc
 ·(refine WW ?_)
  refine zH [] Z Z (dP _ _) Z
def ZN (d:xP) (hb:cN d):zO 98 [zK d] [] (zK d) []:=by
 have z:=DQ d.rg hb.rg;have O:=hb.q;have B:=hb.n;have A:=hb.a;have I:=SO d.rq zB;have L:=JY d.dr zB;have M:=Vb d.au zB;have E:=zA zX d.rq;have C:=zA vW d.dr;unfold zK xC;unfold qD at z;refine eM call98 λF hF=>?_
 refine yJ (xV z I) ?_;refine zN ((d.rq.map zX).length) [1001,1,2] [1,2] [1,2,15] [16,1,2,15] Z (λi T U=>⟨(16,iA i)::T,(1001,.arr 5 (gO i (d.rq.map zX)) false)::U⟩) (Lq ?_ ?_)
 .intro i hi;have hi':i<ln d.rq:=by omega
  have G:(gO i (d.rq.map zX))[i]? =some (zX (d.rq.getD i dd)):=zJ zX d.rq i hi';have e:=jW zX d.rq i hi';have u:=ZB (d.rq.getD i dd).legs (hb.g (d.rq.getD i dd) XD);generalize (d.rq.getD i dd)=t,gO i (d.rq.map zX)=xs,gO (i+1) (d.rq.map zX)=ys at *;subst e;refine zQ u ?_;rfl
 ·(refine zQ L ?_)
  refine zN ((d.dr.map vW).length) [1002,1,2,1001] [1,2,1001] [1,2,38] [39,1,2,38] Z (λi T U=>⟨(39,iA i)::T,(1002,.arr 1 (gO i (d.dr.map vW)) false)::U⟩) (Lq ?_ ?_)
  .intro i hi;have hi':i<ln d.dr:=by omega
   have G:(gO i (d.dr.map vW))[i]? =some (vW (d.dr.getD i dd)):=zJ vW d.dr i hi';have e:=jW vW d.dr i hi';have u:=vJ (d.dr.getD i dd) (by have:=hb.e (d.dr.getD i dd) XD;omega);generalize (d.dr.getD i dd)=t,gO i (d.dr.map vW)=xs,gO (i+1) (d.dr.map vW)=ys at *;subst e;refine zQ u ?_;rfl
  ·(refine zQ M ?_)
   refine zH [] Z Z ?_ Z
   show xC d.rg (.sl false ((d.rq.map zX).take (d.rq.map zX).length)) (.sl false ((d.dr.map vW).take (d.dr.map vW).length)) (zD bA d.au)=_
   rw[zAb,zAb];rfl
def jE (d:xP) (hb:cN d):zO 105 [zK d] [] (zK d) []:=by
 have u:=dV d.rg hb.rg;have M:=dQ d.rq hb.q hb.g;have O:=hb.q;have A:=hb.n;have z:=hb.a;have E:=zA zX d.rq;have C:=zA vW d.dr;have B:=zA bA d.au;unfold zK xC;unfold qD at u;refine eM call105 λF hF=>?_
 refine MN (xV u M) ?_;refine zS 4 1001 1 Z Z Z ?_;refine zU (d.dr) [1001,2,3] [2,3] [2,3,18,19] [4,20,2,3,18,19] Z (λi ga T U=>⟨(4,.ref 1001 0 (ga.map vW).length)::(20,iA i)::T,(1001,.arr 1 (ga.map vW) true)::U⟩) (Lq ?_ ?_)
 .intro i ga x post hx hi;have R:=yI vW hx hi;have G:=zV hx hi;have I:(ga.map vW).length=i:=by rw[zAa,hi]
  have hs:=hb.e x (yV hx);have L:=zA yA x;have e:(ga++[x]).map vW=ga.map vW++[vW x]:=by simp
  clear hx;rw[e];generalize ga.map vW=xs,d.dr.map vW=S at *;refine WL ?_;rfl
 ·(refine WL ?_)
  refine zH [] Z Z ?_ Z
  show xC d.rg (zD zX d.rq) (.sl false ((d.dr.map vW).take (d.dr.map vW).length)) (zD bA d.au)=_
  rw[zAb];rfl
def cO (l:List Vh) (id:Int):Vh:=(l.find? λv=>v.id==id).getD ⟨0,0⟩
def UM (l:List Vh) (id:Int):Bool:=l.any λv=>v.id==id
def GX {l ga post:List Vh} {x:Vh} {id:Int} (h:l=ga++x::post) (u:∀y∈ga,y.id≠id) (hx:x.id=id):cO l id=x/\UM l id=true:=by grind [cO,UM]
def JZ {l:List Vh} {id:Int} (u:∀y∈l,y.id≠id):cO l id=⟨0,0⟩/\UM l id=false:=by grind [cO,UM,List.find?_eq_none]
def Dg (l:List Vh) (id:Int) (E:ln l<=1000000):zO 331 [zD vE l,iA id] [] (.tup [vE (cO l id),bA (UM l id)]) []:=by
 have hl:=zA vE l;refine eM call331 λF hF=>?_
 refine WW ?_;refine qC (l) [4] [] [1,4,8,9] [10,1,4,8,9] Z (λi ga T U C=>(∀y∈ga,y.id≠id)/\C=⟨(10,iA i)::T,(4,.box [.s (.int .i64 0),.s (.int .i64 0)])::U⟩) (Lp ?_ ?_ ?_)
 .exact⟨by simp,rfl⟩
 .rintro i ga x post st hx hi ⟨hp,rfl⟩;have u:=yI vE hx hi;have B:=zV hx hi;by_cases A:x.id=id
  .obtain⟨e1,z⟩:=GX hx hp A;rw[e1,z];clear hx;exact lc
  .clear hx;refine WW ?_;exact⟨λy u=>by simp only[zA5,zBf]at u;rcases u with u|rfl;exact hp y u;exact A,rfl⟩
 .rintro st ⟨hp,rfl⟩;obtain⟨e1,z⟩:=JZ hp;rw[e1,z];exact lc
def qO (l:List Vh) (c:Int):Nat:=(l.filter λv=>v.cls==c).length
def Ip (l:List Vh) (c:Int) (A:ln l<=1000000):zO 403 [zD vE l,iA c] [] (iA (qO l c)) []:=by
 have hl:=zA vE l;refine eM call403 λF hF=>?_
 refine WW ?_;refine zU (l) [] [] [1,8,9] [5,10,1,8,9] Z (λi ga T U=>⟨(5,iA (qO ga c))::(10,iA i)::T,U⟩) (Lq ?_ ?_)
 .intro i ga x post hx hi;have B:=yI vE hx hi;have z:=zV hx hi;have u:qO ga c<=i:=by rw[<-hi];exact zBy _ _
  have e:qO (ga++[x]) c=qO ga c+(if x.cls=c then 1 else 0):=by
   unfold qO;rw[zFf,zAh];by_cases h:x.cls=c
   all_goals simp[h]
  clear hx;by_cases h:x.cls=c
  .rw[Os h]at e;rw[e];generalize qO ga c=m at *;refine WW ?_;rfl
  .rw[Of h,zC8]at e;rw[e];generalize qO ga c=m at *;refine WW ?_;rfl
 .exact lc
def ZO (l:List Vh) (i:Nat):Bool:=decide (0<=(l.getD i dd).id/\(l.getD i dd).id<=4294967295/\0<=(l.getD i dd).cls/\(l.getD i dd).cls<=3/\(0<i->(l.getD (i-1) dd).id<(l.getD i dd).id))
def IA (l:List Vh):Bool:=((nm (ln l)).all λi=>ZO l i)&&decide ((ln l:Int)<=8)
def Hp {l:List Vh} {i:Nat} (hi:i<ln l) (h:ZO l i=false):IA l=false:=by grind [ZO,IA]
def OE (l:List Vh) (hn:ln l<=1000000):zO 399 [zD vE l] [] (bA (IA l)) []:=by
 have hl:=zA vE l;refine eM call399 λF hF=>?_
 refine WW ?_;refine yW (ln l) [] [] [0,5,6] [7,0,5,6] Z (λi T U zs=>(∀s:Nat,s<i->ZO l s=true)/\zs=⟨(7,iA i)::T,U⟩) (Lp ?_ ?_ ?_)
 .exact⟨λs hs=>absurd hs (zB7 _),rfl⟩
 .rintro i st hi ⟨hp,rfl⟩
  have z:ZO l i=true->∀s:Nat,s<i+1->ZO l s=true:=λh s hs=>by
   by_cases R:s=i
   .subst R;exact h
   .exact hp s zB
  have A:=λh=>Hp (l:=l) hi h
  have hy:=zJ vE l i hi;have u:ZO l i=_:=rfl
  conv at u=>rhs;unfold ZO
  by_cases C:0<i
  .have B:=yF vE l ((i:Int)-1) zB zB;rw[show((i:Int)-1).toNat=i-1 by omega]at B;have Y:(l.map vE)[((i:Int)-1).toNat]? =some (vE (l.getD (i-1) dd)):=by rw[show((i:Int)-1).toNat=i-1 by omega];exact B
   clear B;generalize l.getD i dd=t,l.getD (i-1) dd=p,ZO l i=tk at *;by_cases h1:0<=t.id/\t.id<=4294967295/\0<=t.cls/\t.cls<=3/\p.id<t.id
   .obtain⟨h1,h2,M,O,W⟩:=h1;rw[zAd ⟨h1,h2,M,O,λ_=>W⟩]at u;refine WW ?_;exact⟨z u,rfl⟩
   .rw[zAc (λh=>h1 ⟨h.1,h.2.1,h.2.2.1,h.2.2.2.1,h.2.2.2.2 C⟩)]at u;rw[A u]
    by_cases E:0<=t.id<;>by_cases G:t.id<=4294967295<;>by_cases I:0<=t.cls<;>by_cases L:t.cls<=3<;>by_cases V:p.id<t.id<;>first|(exfalso;exact h1 ⟨E,G,I,L,V⟩)|(exfalso;omega;done)|(clear h1;((refine WW ?_));exact zI)
  .obtain rfl:i=0:=by omega
   generalize l.getD 0 dd=t,ZO l 0=tk at *;by_cases h1:0<=t.id/\t.id<=4294967295/\0<=t.cls/\t.cls<=3
   .obtain⟨h1,h2,M,O⟩:=h1;rw[zAd ⟨h1,h2,M,O,λh=>absurd h C⟩]at u;refine WW ?_;exact⟨z u,rfl⟩
   .rw[zAc (λh=>h1 ⟨h.1,h.2.1,h.2.2.1,h.2.2.2.1⟩)]at u;rw[A u]
    by_cases E:0<=t.id<;>by_cases G:t.id<=4294967295<;>by_cases I:0<=t.cls<;>by_cases L:t.cls<=3<;>first|(exfalso;exact h1 ⟨E,G,I,L⟩)|(exfalso;omega;done)|(clear h1;((refine WW ?_));exact zI)
 .rintro st ⟨hp,rfl⟩;have e:((nm (ln l)).all λi=>ZO l i)=true:=zAq.2 λi hi=>hp i (zA3.1 hi)
  unfold IA;rw[e,zAo];by_cases S:(ln l:Int)<=8
  .rw[zAd S];exact lc
  .rw[zAc S];exact lc
def jT (k v:Int):Ms:=⟨14,[],[k,v],[]⟩
def DS (k v:Int):zO 260 [iA k,iA v] [] (yC (jT k v)) []:=by
 refine eM call260 λF hF=>?_
 exact lp
def OF (l:List Tk):Nat:=(l.filter λt=>!t.used).length
def ZP (d:xP):Ms:=⟨20,[],[(OF d.rg.tk:Int),8-(ln d.rg.vh:Int),d.rg.ag.req-(ln d.rq:Int),d.rg.bk.level],[]⟩
def GY (ga:List Tk) (x:Tk):OF (ga++[x])=OF ga+(if x.used=true then 0 else 1):=by grind [OF]
def Uv (d:xP) (hb:cN d) (R:0<=d.rg.ag.req) (h1:d.rg.ag.req<=1000):zO 287 [zK d] [] (yC (ZP d)) []:=by
 have V:=hb.q;have S:=hb.rg.tk.n;have hv:=hb.rg.v;have I:=zA yP d.rg.tk;have A:=zA vE d.rg.vh;have z:=zA zX d.rq;unfold ZP;rw[<-A,<-z];unfold zK xC;refine eM call287 λF hF=>?_
 refine WW ?_;refine zU (d.rg.tk) [1,2] [1,2] [1,2,8,9] [3,10,1,2,8,9] Z (λi ga T U=>⟨(3,iA (OF ga))::(10,iA i)::T,U⟩) (Lq ?_ ?_)
 .intro i ga x post hx hi;have W:=yI yP hx hi;have C:=zV hx hi;have G:OF ga<=i:=by rw[<-hi];exact zBy _ _
  have e:=GY ga x;clear hx
  cases u:x.used with
  |true=>
   rw[u,Os Z,zC8]at e;rw[e];generalize OF ga=m at *;obtain⟨O,B,par,L,E,M⟩:=x;cases u;refine WW ?_;rfl
  |false=>
   rw[u,Of zAp]at e;rw[e];generalize OF ga=m at *;obtain⟨O,B,par,L,E,M⟩:=x;cases u;refine WW ?_;rfl
 .exact lp
def We (d:xP) (k f4:Int) (G:k≠1) (I:k≠9) (hb:cN d) (V:0<=d.rg.ag.req) (h1:d.rg.ag.req<=1000):zO 261 [zK d,iA k,iA f4] [] (yC (ZP d)) []:=by
 have Y:=hb.q;have W:=hb.rg.tk.n;have hv:=hb.rg.v;have M:=zA yP d.rg.tk;have A:=zA vE d.rg.vh;have z:=zA zX d.rq;unfold ZP;rw[<-A,<-z];unfold zK xC;refine eM call261 λF hF=>?_
 refine WW ?_;refine zU (d.rg.tk) [3,6] [3,6] [3,6,45,46] [10,47,3,6,45,46] Z (λi ga T U=>⟨(10,iA (OF ga))::(47,iA i)::T,U⟩) (Lq ?_ ?_)
 .intro i ga x post hx hi;have hy:=yI yP hx hi;have C:=zV hx hi;have L:OF ga<=i:=by rw[<-hi];exact zBy _ _
  have e:=GY ga x;clear hx
  cases u:x.used with
  |true=>
   rw[u,Os Z,zC8]at e;rw[e];generalize OF ga=m at *;obtain⟨S,B,par,O,E,R⟩:=x;cases u;refine WW ?_;rfl
  |false=>
   rw[u,Of zAp]at e;rw[e];generalize OF ga=m at *;obtain⟨S,B,par,O,E,R⟩:=x;cases u;refine WW ?_;rfl
 .exact lp
def OG (d:xP) (f4:Int):Ms:=⟨13,[],[d.rg.num,f4],[]⟩
def Ub (d:xP) (f4:Int):zO 261 [zK d,iA 1,iA f4] [] (yC (OG d f4)) []:=by
 unfold OG zK xC;refine eM call261 λF hF=>?_
 exact lp
def fB (l:List Rq):List Int:=(l.map λr=>[r.id,r.til]).flatten
def OZ (d:xP):Ms:=⟨19,[],fB d.rq,[]⟩
def IB (ga:List Rq) (x:Rq):(fB (ga++[x])).map iA=(fB ga).map iA++[iA x.id,iA x.til]:=by simp[fB]
theorem VZ:∀l:List Rq,(fB l).length=2*ln l
 | []=>rfl
 |x::l=>by
  have:=VZ l
  show(x.id::x.til::fB l).length=_
  rw[zAm,zAm,zAm];omega
def Ve (d:xP) (f4:Int) (hb:cN d):zO 261 [zK d,iA 9,iA f4] [] (yC (OZ d)) []:=by
 have C:=hb.q;have B:=zA zX d.rq;unfold OZ zK xC;refine eM call261 λF hF=>?_
 refine WW ?_;refine qJ 7 2 1001 1 Z Z Z Z Z ?_;refine zU (d.rq) [7,1001,6] [6] [6,7,26,27] [28,6,7,26,27] Z (λi ga T U=>⟨(28,iA i)::T,(7,.box [iA 19,.s (.slice none 0 0),.ref 1001 0 ((fB ga).map iA).length,.s (.slice none 0 0)])::(1001,.arr 1 ((fB ga).map iA) true)::U⟩) (Lq ?_ ?_)
 .intro i ga x post hx hi;have E:=yI zX hx hi;have u:=zV hx hi;have z:=VZ ga;have A:=zA iA (fB ga);have e:=IB ga x;clear hx;rw[e];generalize (fB ga).map iA=xs at *;refine WW ?_;rfl
 ·(refine WW ?_)
  refine zH [] Z Z ?_ Z
  show AV.agg [iA 19,.sl false [],.sl false (((fB d.rq).map iA).take ((fB d.rq).map iA).length),.sl false []]=_
  rw[zAb];rfl
def Tv (l:List Vh) (id:Int) (E:ln l<=1000000):zO 353 [zD vE l,iA id] [] (.tup [vE (cO l id),bA (UM l id)]) []:=by
 have hl:=zA vE l;refine eM call353 λF hF=>?_
 refine WW ?_;refine qC (l) [4] [] [1,4,8,9] [10,1,4,8,9] Z (λi ga T U C=>(∀y∈ga,y.id≠id)/\C=⟨(10,iA i)::T,(4,.box [.s (.int .i64 0),.s (.int .i64 0)])::U⟩) (Lp ?_ ?_ ?_)
 .exact⟨by simp,rfl⟩
 .rintro i ga x post st hx hi ⟨hp,rfl⟩;have u:=yI vE hx hi;have B:=zV hx hi;by_cases A:x.id=id
  .obtain⟨e1,z⟩:=GX hx hp A;rw[e1,z];clear hx;exact lc
  .clear hx;refine WW ?_;exact⟨λy u=>by simp only[zA5,zBf]at u;rcases u with u|rfl;exact hp y u;exact A,rfl⟩
 .rintro st ⟨hp,rfl⟩;obtain⟨e1,z⟩:=JZ hp;rw[e1,z];exact lc
def vj (l:List Rq) (q id:Int) (v:Vh) (u:Int) (x:List Lg) (f4:Int) (hv:bW l) (C:(ln l:Int)<=q) (hb:¬((0<=v.id/\v.id<=4294967295)/\(0<=v.cls/\v.cls<=3))):
  zO 355 [zD zX l,iA q,iA id,vE v,iA u,zD yN x,iA f4] [] (.tup [zD zX [],iA 1]) []:=by
 have A:=QD l q hv C;have z:=KQ v.id;have B:=Jd v.cls;by_cases h1:0<=v.id/\v.id<=4294967295
 .have h2:¬(0<=v.cls/\v.cls<=3):=λh=>hb ⟨h1,h⟩
  rw[zAd h1]at z;rw[zAc h2]at B;refine eM call355 λF hF=>?_
  exact ld (kC A z B)
 .rw[zAc h1]at z;refine eM call355 λF hF=>?_
  exact ld (xV A z)
def Ue (l:List Rq) (q id:Int) (v:Vh) (u:Int) (x:List Lg) (f4:Int) (hv:bW l) (C:(ln l:Int)<=q) (hb:¬((0<=v.id/\v.id<=4294967295)/\(0<=v.cls/\v.cls<=3))):
  zO 333 [zD zX l,iA q,iA id,vE v,iA u,zD yN x,iA f4] [] (.tup [zD zX [],iA 1]) []:=by
 have A:=VS l q hv C;have z:=wS v.id 0 4294967295;have B:=wS v.cls 0 3;by_cases h1:0<=v.id/\v.id<=4294967295
 .have h2:¬(0<=v.cls/\v.cls<=3):=λh=>hb ⟨h1,h⟩
  rw[zAd h1]at z;rw[zAc h2]at B;refine eM call333 λF hF=>?_
  exact ld (kC A z B)
 .rw[zAc h1]at z;refine eM call333 λF hF=>?_
  exact ld (xV A z)
