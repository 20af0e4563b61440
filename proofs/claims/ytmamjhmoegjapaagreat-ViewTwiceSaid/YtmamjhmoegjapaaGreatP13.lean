/- Part 13. -/
import Derived.Test.YtmamjhmoegjapaaGreatP12
namespace Go.Proofs.YtmamjhmoegjapaaGreat
namespace Av
open Tryz
set_option linter.all false
set_option maxRecDepth 4000
set_option maxHeartbeats 2000000
def TA {α:Type} (p:α->Bool) (l:List α):Int:=if l.any p=true then(l.findIdx p:Int)else -1
theorem QI {α:Type} {p:α->Bool} {l pre post:List α} {x:α} (h:l=pre++x::post) (hn:∀y∈pre,p y=false) (hx:p x=true):TA p l=(pre.length:Int):=by
 subst h;have h1:(pre++x::post).any p=true:=by simp[hx]
 have h2:pre.findIdx p=pre.length:=List.findIdx_eq_length.2 (λy hy=>by simpa using hn y hy);unfold TA;rw[zYp h1,List.findIdx_append,h2,zYo zB,List.findIdx_cons,hx];simp
theorem ZF {α:Type} {p:α->Bool} {l:List α} (hn:∀y∈l,p y=false):TA p l= -1:=by
 unfold TA;rw[zYo EP]
theorem zAv {α:Type} {p:α->Bool} {l:List α} (h:l.any p=true):0<=TA p l/\TA p l<l.length:=by
 unfold TA;rw[zYp h];have:=List.findIdx_lt_length.2 (yAd.1 h);omega
theorem zTi (id:Int) (x:Rq):zO 295 [yL x,.ptr 3 0 0] [(3,.box [iA id])] (bA (x.id==id)) [(3,.box [iA id])]:=by
 refine eM call295 λF hF=>?_
 refine WW ?_;exact zJ [3] rfl rfl rfl rfl
theorem zTj (id:Int) (l:List Rq) (hb:l.length<=1000):zO 294 [zD yL l,.fn 295 [.ptr 3 0 0]] [(3,.box [iA id])] (iA (TA (λr:Rq=>r.id==id) l)) [(3,.box [iA id])]:=by
 have hl:=zA yL l;refine eM call294 λF hF=>?_
 refine WW ?_;refine kR (l) [3] [3] [0,1,7] [8,0,1,7] rfl (λi pre T U zs=>(∀y∈pre,(y.id==id)=false)/\zs=⟨(8,iA i)::T,U⟩) ?_;(conv=>whnf);refine⟨?_,?_,?_⟩
 ·exact⟨by simp,rfl⟩
 ·rintro i pre x post st hx hi ⟨hp,rfl⟩;have hy:=xO yL hx hi;have hlt:=yX hx hi;have c:=zTi id x;have hit:=QI (p:=λr:Rq=>r.id==id) hx hp
  cases he:(x.id==id)<;>rw[he]at c
  ·clear hx hit;refine zW c ?_;exact⟨λy hy=>by simp only[zZa,zZu]at hy;rcases hy with hy|rfl;exact hp y hy;exact he,rfl⟩
  ·rw[hit he,hi];clear hx hit;refine zW c ?_;exact zJ [3] rfl rfl rfl rfl
 ·rintro st ⟨hp,rfl⟩;rw[ZF hp];refine WW ?_;exact zJ [3] rfl rfl rfl rfl
theorem NA (l:List Rq) (id:Int) (hb:l.length<=1000):zO 271 [zD yL l,iA id] [] (iA (TA (λr:Rq=>r.id==id) l)) []:=by
 have c:=zTj id l hb;generalize TA (λr:Rq=>r.id==id) l=n at *;refine eM call271 λF hF=>?_
 refine zW c ?_;exact zL
theorem zTk (now:Int) (x:Rq):zO 191 [yL x,.ptr 3 0 0] [(3,.box [iA now])] (bA (decide (now<=x.til))) [(3,.box [iA now])]:=by
 cases hb:decide (now<=x.til)with
 |false=>
  rw[zY9]at hb;refine eM call191 λF hF=>?_
  refine WW ?_;exact zJ [3] rfl rfl rfl rfl
 |true=>
  rw[zYx]at hb;refine eM call191 λF hF=>?_
  refine WW ?_;exact zJ [3] rfl rfl rfl rfl
theorem zTl (v:Int) (x:Rq):zO 265 [yL x,.ptr 3 0 0] [(3,.box [iA v])] (bA (x.vh != v)) [(3,.box [iA v])]:=by
 refine eM call265 λF hF=>?_
 refine WW ?_;exact zJ [3] rfl rfl rfl rfl
theorem zTm (v:Int) (x:Rq):zO 272 [yL x,.ptr 3 0 0] [(3,.box [iA v])] (bA (x.id != v)) [(3,.box [iA v])]:=by
 refine eM call272 λF hF=>?_
 refine WW ?_;exact zJ [3] rfl rfl rfl rfl
def zIj (l:List Rq) (now:Int):List Rq:=l.filter λx=>decide (now<=x.til)
def DE (l:List Rq) (v:Int):List Rq:=l.filter λx=>x.vh != v
def zIk (l:List Rq) (id:Int):List Rq:=l.filter λx=>x.id != id
def gI (l:List Rq) (id:Int):Bool:=l.any λx=>x.id==id
theorem zIl (l:List Rq) (now:Int) (hv:aM l):zO 157 [zD yL l,iA now] [] (zD yL (zIj l now)) []:=by
 have h4:=hv.n4;have c:=zAc 191 now _ l zB (λr hr=>by have:=hv.lg3 hr;omega) (zTk now);unfold zIj;generalize l.filter _=l2 at *;refine eM call157 λF hF=>?_
 refine zW c ?_;exact zL
theorem LY (l:List Rq) (v:Int) (hv:aM l):zO 237 [zD yL l,iA v] [] (zD yL (DE l v)) []:=by
 have h4:=hv.n4;have c:=zAc 265 v _ l zB (λr hr=>by have:=hv.lg3 hr;omega) (zTl v);unfold DE;generalize l.filter _=l2 at *;refine eM call237 λF hF=>?_
 refine zW c ?_;exact zL
theorem zIm (l:List Rq) (id:Int) (hv:aM l):zO 240 [zD yL l,iA id] [] (.tup [zD yL (if gI l id=true then zIk l id else []),iA (if gI l id=true then 0 else 12)]) []:=by
 have h4:=hv.n4;have c1:=VG l 4 hv zB;have c2:=NA l id zB;have c3:=zAc 272 id _ l zB (λr hr=>by have:=hv.lg3 hr;omega) (zTm id);unfold zIk;generalize l.filter _=l2 at*
 cases hh:gI l id with
 |true=>
  have hx:=zAv (p:=λx:Rq=>x.id==id) (l:=l) hh;generalize TA (λx:Rq=>x.id==id) l=n at *;rw[zYp rfl,zYp rfl];refine eM call240 λF hF=>?_
  refine xA (gK c1 c2 c3) ?_;exact zL
 |false=>
  have hx:=ZF (p:=λx:Rq=>x.id==id) (l:=l) (by simpa [gI]using hh);rw[hx]at c2;rw[zYo zZb,zYo zZb];refine eM call240 λF hF=>?_
  refine xA (vD c1 c2) ?_;exact zL
theorem zEy (l:List Rq) (id:Int) (hv:aM l):yU [zD yL l,iA id] [] (.tup [zD yL (if gI l id=true then zIk l id else []),iA (if gI l id=true then 0 else 12)]) []:=yG
section
variable {P:Program} {K0:List Nat} {F:Fr K0} {m:Nat}
def TX (l:List Oper) (n:Nat) (T:List Nat) (fs:List FP):Bool:=
 zOc l.toArray&&okT l.toArray T&&((List.range n).all λj=>(List.range j).all λi=>match l[i]?,l[j]?,fs[i]?,fs[j]? with
  |some oi,some oj,some fi,some fj=>bit T j i|| !qW l.toArray oi oj fi fj
  |_,_,_,_=>false)&&Nat.ble n l.length&&((List.range l.length).all λj=>Nat.blt j n||(List.range j).all λi=>bit T j i)
theorem zEz {id:Nat} {l:List Oper} (n:Nat) {st st':St} {es:List TO} {Q:Exit->St->Prop} (hm:P.follows .mixedOrders=true) (hT:Tr P m l.toArray (l.take n) st es st') (hC:TX l n (PO l) (es.map TO.fp)=true) (hB:GK P F m l.toArray (l.drop n) st' (Q .normal)):
  uI P F m (.region id l.toArray true) st Q:=by
 refine⟨?_⟩;intro a w H;unfold TX at hC;rw[zY6,zY6,zY6,zY6,zY3,zY3]at hC;obtain⟨⟨⟨⟨hA,hTc⟩,hX⟩,hnl⟩,hY⟩:=hC;have hnl:=zY7 hnl;generalize PO l=T at *;have hlen:=hT.len;rw[zY5,yCn hnl]at hlen
 have hAl:∀(i:Nat) o,(l.take n)[i]? =some o->l[i]? =some o/\i<n:=λi o h=>by
  have h1:i<n:=by
   have:=(zZg.1 h).1;rw[zY5]at this;omega
  rw[List.getElem?_take_of_lt h1]at h;exact⟨h,h1⟩
 have hbt:∀i j,n<=j->j<l.length->i<j->bit T j i=true:=λi j h1 h2 h3=>by
  have:=hY j (zZi.2 h2);rw[show Nat.blt j n=false by cases hb:Nat.blt j n with|false=>rfl|true=>exact absurd (zY7 hb) zB,yBh,zY3]at this;exact this i (zZi.2 h3)
 let R:=(l.take n).zipWith (λo e=>(o.dst,e)) es
 have hR:∀(j:Nat) p,R[j]? =some p->∃o e,(l.take n)[j]? =some o/\es[j]? =some e/\p=(o.dst,e):=λj p hp=>by
  simp only[R,yDw]at hp
  cases ho:(l.take n)[j]? with
  |none=>simp[ho]at hp
  |some o=>cases he:es[j]? with
   |none=>simp[ho,he]at hp
   |some e=>simp[ho,he]at hp;exact⟨o,e,rfl,rfl,hp.symm⟩
 have hcl:∀i j oi oj ei ej,i<j->(l.take n)[i]? =some oi->(l.take n)[j]? =some oj->es[i]? =some ei->es[j]? =some ej->qW l.toArray oi oj ei.fp ej.fp=true->bit T j i=true:=λi j oi oj ei ej hij h1 h2 h3 h4 h5=>by
  have:=zY3.1 (hX j (zZi.2 (hAl j oj h2).2)) i (zZi.2 hij);simp only[(hAl i oi h1).1,(hAl j oj h2).1,zYt,h3,h4,Option.map_some,h5,yDt,yD9]at this;simpa using this
 let QQ:Exit->Act->World->Prop:=λe a' w'=>e= .normal/\∃s,Q .normal s/\wO F m s a' w'
 let J0:Array Bool->Prop:=λL=>L.size=l.toArray.size/\(∀i o,l.toArray[i]? =some o->qU L i=true->∀e∈o.after,binds e=true->qU L e.on=true)
 let JA:Array Bool->Act->World->Prop:=λL a w=>J0 L/\(∀i,n<=i->qU L i=false)/\YS F m (zG (vR (qU L) 0 R st).tm) (zC (vR (qU L) 0 R st).h) a w
 let JB:Array Bool->Act->World->Prop:=λL a w=>J0 L/\∃k,(∀i,qU L i=decide (i<n+k))/\n+k<=l.length/\wpListIn (LO F.ro) 0 P l.toArray QQ (l.drop (n+k)) a w
 let J:Array Bool->Act->World->Prop:=λL a w=>JA L a w∨JB L a w
 have hJ0:∀L a w,J L a w->J0 L:=λL a w h=>h.elim (λh=>h.1) (λh=>h.1)
 have hAB:∀L a w,JA L a w->(∀i,i<n->qU L i=true)->JB L a w:=λL a w hJ hall=>by
  refine⟨hJ.1,0,λi=>?_,hnl,?_⟩
  ·by_cases h:i<n
   ·rw[hall i h];simp[h]
   ·rw[hJ.2.1 i zB];simp[h]
  ·have:vR (qU L) 0 R st=st':=JY (l.take n) es 0 st st' hT λj hj=>by rw[zZt];exact hall j (by rw[zY5]at hj;omega)
   have h2:=hJ.2.2;rw[this]at h2;exact hB a w h2
 have hend:∀L a w,(∀i,i<l.toArray.size->qU L i=true)->J L a w->QQ .normal a w:=λL a w hall hJ=>by
  have hJB:JB L a w:=hJ.elim (λh=>hAB L a w h λi hi=>hall i wI) (λh=>h);obtain⟨_,k,h1,h2,h3⟩:=hJB
  have hk:n+k=l.length:=by
   by_cases h:n+k<l.length
   ·have h4:=hall (n+k) VV;rw[h1]at h4;simp at h4
   ·omega
  rw[hk,yCi]at h3;exact h3
 have hcls:∀(L:Array Bool) i o,J0 L->l.toArray[i]? =some o->(∀e∈o.after,binds e=true->qU L e.on=true)->J0 (L.setIfInBounds i true):=λL i o h0 ho hpre=>by
  obtain⟨hs,hdn⟩:=h0;have hin:i<l.toArray.size:=(yAs.1 ho).1
  have hL':∀j,qU (L.setIfInBounds i true) j=if j=i then true else qU L j:=λj=>dY L i j (by rw[hs];exact hin)
  refine⟨by simpa using hs,λj oj hoj hlj ed hed hb=>?_⟩;rw[hL']at hlj⊢;by_cases hji:j=i
  ·subst hji;rw[ho]at hoj;cases hoj;split
   ·rfl
   ·exact hpre ed hed hb
  ·rw[zYo hji]at hlj;split
   ·rfl
   ·exact hdn j oj hoj hlj ed hed hb
 have hstepB:∀L a w i,JB L a w->i∈Region.ready .any l.toArray L->∀K:Act->World->Prop,(∀a' w',J (L.setIfInBounds i true) a' w'->K a' w')->wpOpIn (LO F.ro) 0 P l.toArray QQ i K a w:=by
  intro L a w i hJ hi K hK;obtain⟨h0,k,h1,h2,h3⟩:=hJ;obtain⟨o,ho,hl,hpre⟩:=jT h0.1 hi;have hin:i<l.toArray.size:=(yAs.1 ho).1;have hin':i<l.length:=by simpa using hin
  have hge:n+k<=i:=by
   rw[h1]at hl;simpa using hl
  have hie:i=n+k:=by
   by_cases h:n+k<i
   ·have h5:=TN hA hTc h0.2 (i+1) i o zB ho hpre (n+k) (hbt _ _ zB hin' h);rw[h1]at h5;simp at h5
   ·omega
  subst hie;rw[yBo hin']at h3
  have ho':l[n+k]'hin'=o:=by
   have:=(yAs.1 ho).2;simpa using this
  rw[ho']at h3
  have hL':∀j,qU (L.setIfInBounds (n+k) true) j=if j=n+k then true else qU L j:=λj=>dY L _ j (by rw[h0.1];exact hin)
  have hnx:∀a' w',wpListIn (LO F.ro) 0 P l.toArray QQ (l.drop (n+k+1)) a' w'->K a' w':=λa' w' h=>by
   refine hK a' w' (.inr ⟨hcls L _ o h0 ho hpre,k+1,λj=>?_,zB,h⟩);rw[hL',h1];by_cases hj:j=n+k
   ·rw[zYp hj];simp;omega
   ·rw[zYo hj];by_cases hj2:j<n+k
    ·simp[hj2];omega
    ·simp[hj2];omega
  unfold wpOpIn;rw[ho];dsimp only;unfold wpListIn at h3;split
  ·rename_i hw;rw[zYp hw]at h3;exact Oper.wpIn_mono hnx h3
  ·rename_i hw;rw[zYo hw]at h3;exact⟨h3.1,hnx _ _ h3.2⟩
 have hstep:∀L a w i,J L a w->i∈Region.ready .any l.toArray L->∀K:Act->World->Prop,(∀a' w',J (L.setIfInBounds i true) a' w'->K a' w')->wpOpIn (LO F.ro) 0 P l.toArray QQ i K a w:=by
  intro L a w i hJ hi K hK
  rcases hJ with hJ|hJ
  case inr=>exact hstepB L a w i hJ hi K hK
  by_cases hin0:i<n
  case neg=>
   refine hstepB L a w i (hAB L a w hJ λj hj=>?_) hi K hK;obtain⟨o,ho,hl,hpre⟩:=jT hJ.1.1 hi;have hin:i<l.toArray.size:=(yAs.1 ho).1;exact TN hA hTc hJ.1.2 (i+1) i o zB ho hpre j (hbt _ _ zB (by simpa using hin) zB)
  obtain⟨h00,hge0,hRel⟩:=hJ;obtain⟨hs,hdn⟩:=h00;obtain⟨o,ho,hl,hpre⟩:=jT hs hi;have hin:i<l.toArray.size:=(yAs.1 ho).1;have ho':(l.take n)[i]? =some o:=by rw[List.getElem?_take_of_lt hin0];simpa using ho
  obtain⟨e,he⟩:∃e,es[i]? =some e:=⟨es[i]'(by rw[hlen];exact hin0),by simp⟩;have hahead:=TN hA hTc hdn (i+1) i o zB ho hpre
  have hlate:∀j,j<l.toArray.size->bit T j i=true->qU L j=false:=λj hj hij=>by
   cases hlj:qU L j with
   |false=>rfl
   |true=>
    have hoj:l.toArray[j]? =some l.toArray[j]:=by simp[hj]
    have:=TN hA hTc hdn (j+1) j _ zB hoj (hdn j _ hoj hlj) i hij;rw[hl]at this;cases this
  have hord:∀j oj ej,(l.take n)[j]? =some oj->es[j]? =some ej->j≠i->(j<i->qW l.toArray oj o ej.fp e.fp=true)->(i<j->qW l.toArray o oj e.fp ej.fp=true)->qU L j=decide (j<i):=λj oj ej h1 h2 hne h3 h4=>by
   rcases Nat.lt_or_gt_of_ne hne with h|h
   ·rw[hahead j (hcl j i oj o ej e h h1 ho' h2 he (h3 h))];simp[h]
   ·rw[hlate j (by have:=hAl j oj h1;simp;omega) (hcl i j o oj e ej h ho' h1 he h2 (h4 h))];simp;omega
  obtain⟨⟨s1,s2,s3,s4,s5,s6⟩,hnext⟩:=hT.at i 0 o e ho' he;simp only[zZt]at s3 s4 s6 hnext
  let Li:Nat->Bool:=λj=>decide (j<i)
  have rdS:∀t,t∈MO l.toArray o->zG (vR (qU L) 0 R st).tm t=zG (vR Li 0 R st).tm t:=λt ht=>dD R 0 st st rfl λj p hp hd=>by
   obtain⟨oj,ej,h1,h2,rfl⟩:=hR j p hp;rw[zZt];by_cases hji:j=i
   ·subst hji;simp only[Li];rw[hl];simp
   ·refine hord j oj ej h1 h2 hji (λ_=>?_) λ_=>?_
    ·unfold qW;simp only[show oj.dst=some t from hd,yAn.2 ht,yA4]
    ·unfold qW;simp only[show oj.dst=some t from hd,yAn.2 ht,yA4,yBe]
  have rdK:∀k,k∈e.r∨k∈e.nw∨k∈yC e.d->zC (vR (qU L) 0 R st).h k=zC (vR Li 0 R st).h k:=λk hk=>gO R 0 st st rfl λj p hp hd=>by
   obtain⟨oj,ej,h1,h2,rfl⟩:=hR j p hp;rw[zZt];by_cases hji:j=i
   ·subst hji;simp only[Li];rw[hl];simp
   ·have hwj:k∈ej.fp.w:=by simp only[TO.fp,zZa];exact .inl hd
    have hki:k∈e.fp.w∨k∈e.fp.r:=by
     simp only[TO.fp,zZa]
     rcases hk with h|h|h
     ·exact .inr h
     ·exact .inl (.inr h)
     ·exact .inl (.inl h)
    refine hord j oj ej h1 h2 hji (λ_=>?_) λ_=>?_
    ·have:ej.fp.w.any (λk=>e.fp.w.contains k||e.fp.r.contains k)=true:=yAd.2 ⟨k,hwj,by simp only[yAt,yAn];exact hki⟩;unfold qW;simp only[this,yBe,yA4]
    ·rcases hki with h|h
     ·have:e.fp.w.any (λk=>ej.fp.w.contains k||ej.fp.r.contains k)=true:=yAd.2 ⟨k,h,by simp only[yAt,yAn];exact .inl hwj⟩;unfold qW;simp only[this,yBe,yA4]
     ·have:ej.fp.w.any (λk=>e.fp.r.contains k)=true:=yAd.2 ⟨k,hwj,yAn.2 h⟩;unfold qW;simp only[this,yBe]
  have hL':∀j,qU (L.setIfInBounds i true) j=if j=i then true else qU L j:=λj=>dY L i j (by rw[hs];exact hin)
  have lookN:∀t,zG (vR (qU (L.setIfInBounds i true)) 0 R st).tm t=if o.dst=some t then e.v else zG (vR (qU L) 0 R st).tm t:=λt=>by
   by_cases hd:o.dst=some t
   ·rw[zYp hd]
    have h1:zG (vR (qU (L.setIfInBounds i true)) 0 R st).tm t=zG (vR (λj=>decide (j<i+1)) 0 R st).tm t:=dD R 0 st st rfl λj p hp hdj=>by
     obtain⟨oj,ej,h1,h2,rfl⟩:=hR j p hp;rw[zZt,hL'];by_cases hji:j=i
     ·subst hji;simp
     ·have hdj':oj.dst=some t:=hdj;rw[zYo hji,hord j oj ej h1 h2 hji (λ_=>by unfold qW;simp[hdj',hd]) (λ_=>by unfold qW;simp[hdj',hd])];by_cases h:j<i
      ·simp[h];omega
      ·simp[h];omega
    rw[h1,show(vR (λj=>decide (j<i+1)) 0 R st)=_ from hnext,aW,zYp hd]
   ·rw[zYo hd]
    exact dD R 0 st st rfl λj p hp hdj=>by
     obtain⟨oj,ej,h1,h2,rfl⟩:=hR j p hp;rw[zZt,hL'];by_cases hji:j=i
     ·subst hji;rw[ho']at h1;cases h1;exact absurd hdj hd
     ·rw[zYo hji]
  have lookEN:∀k,zC (vR (qU (L.setIfInBounds i true)) 0 R st).h k=over e.d (zC (vR (qU L) 0 R st).h) k:=λk=>by
   by_cases hd:k∈yC e.d
   ·have h1:zC (vR (qU (L.setIfInBounds i true)) 0 R st).h k=zC (vR (λj=>decide (j<i+1)) 0 R st).h k:=gO R 0 st st rfl λj p hp hdj=>by
     obtain⟨oj,ej,h1,h2,rfl⟩:=hR j p hp;rw[zZt,hL'];by_cases hji:j=i
     ·subst hji;simp
     ·have hwj:k∈ej.fp.w:=by simp only[TO.fp,zZa];exact .inl hdj
      have hwi:k∈e.fp.w:=by simp only[TO.fp,zZa];exact .inl hd
      have q1:ej.fp.w.any (λk=>e.fp.w.contains k||e.fp.r.contains k)=true:=yAd.2 ⟨k,hwj,by simp only[yAt,yAn];exact .inl hwi⟩;have q2:e.fp.w.any (λk=>ej.fp.w.contains k||ej.fp.r.contains k)=true:=yAd.2 ⟨k,hwi,by simp only[yAt,yAn];exact .inl hwj⟩;rw[zYo hji,hord j oj ej h1 h2 hji (λ_=>by unfold qW;simp only[q1,yBe,yA4]) (λ_=>by unfold qW;simp only[q2,yBe,yA4])];by_cases h:j<i
      ·simp[h];omega
      ·simp[h];omega
    rw[h1,show(vR (λj=>decide (j<i+1)) 0 R st)=_ from hnext,cW];exact JX hd
   ·rw[PP hd]
    exact gO R 0 st st rfl λj p hp hdj=>by
     obtain⟨oj,ej,h1,h2,rfl⟩:=hR j p hp;rw[zZt,hL'];by_cases hji:j=i
     ·subst hji;rw[he]at h2;cases h2;exact absurd hdj hd
     ·rw[zYo hji]
  have hfin:∀a' w',YS F m (λt=>if o.dst=some t then e.v else zG (vR (qU L) 0 R st).tm t) (over e.d (zC (vR (qU L) 0 R st).h)) a' w'->K a' w':=λa' w' h=>by
   refine hK a' w' (.inl ⟨hcls L i o ⟨hs,hdn⟩ ho hpre,λj hj=>?_,h.congr lookN lookEN⟩);rw[hL',zYo zB];exact hge0 j hj
  have hexec:e.on=true->o.wpIn (LO F.ro) 0 P a w K QQ:=λhon=>
   (s4 hon).rel hRel (λt ht=>rdS t (by unfold MO;simp[ht])) (λk hk=>rdK k (.inl hk)) (λk hk=>by rw[rdK k (.inr (.inl hk))];exact s3 k hk) s1 s2 hfin
  unfold wpOpIn;rw[ho];dsimp only
  cases hg:o.guard with
  |none=>
   rw[hg]at s6;rw[zYp (by simp[Region.wanted,hg])];exact hexec s6
  | some jb=>
   obtain⟨j,b⟩:=jb;rw[hg]at s6;obtain⟨t,c,g1,g2,g3⟩:=s6;have htr:t∈MO l.toArray o:=by unfold MO gOf;simp[hg,g1]
   have hv:a.eval (.tmp t)=c:=by
    obtain⟨⟨_,β,_,_,Ht,_⟩,_⟩:=hRel;have:=Ht t;rw[rdS t htr,g2]at this;exact this.s_inv
   have hw:=fZ hg g1 hv
   cases hon:e.on with
   |true=>
    rw[zYp (by rw[hw,<-g3,hon])];exact hexec hon
   |false=>
    rw[zYo (by rw[hw,<-g3,hon];simp)];obtain⟨v1,v2⟩:=s5 hon;refine⟨λ_ _=>trivial,hfin _ _ ?_⟩;rw[v1,v2];exact YS.bot hRel o.dst s2
 have main:∀(fuel:Nat) (L:Array Bool) (a:Act) (w:World),cnt (λi=>!qU L i) l.toArray.size<=fuel->J L a w->wpAnyIn (LO F.ro) 0 P .any l.toArray QQ fuel L a w:=by
  intro fuel
  induction fuel with
  | zero=>
   intro L a w hf hJ
   have all:∀i,i<l.toArray.size->qU L i=true:=by
    intro i hi
    cases hl:qU L i with
    |true=>rfl
    |false=>
     exfalso;have h:=QC (p:=λj=>!qU L j&&j != i) (q:=λj=>!qU L j) l.toArray.size i hi zU (λj hj=>by simp[hj]);simp[hl]at h;simp at hf;omega
   refine⟨?_,hend L a w all hJ⟩
   cases hr:Region.ready .any l.toArray L with
   |nil=>rfl
   |cons i rest=>
    obtain⟨o,ho,hl,_⟩:=jT (hJ0 _ _ _ hJ).1 (i:=i) (by rw[hr];simp);rw[all i (yAs.1 ho).1]at hl;cases hl
  |succ fuel ih=>
   intro L a w hf hJ;refine⟨λhr=>hend L a w (λi hi=>LM hA (hJ0 _ _ _ hJ).1 hr (i+1) i zB hi) hJ,λi hi=>?_⟩;refine hstep L a w i hJ hi _ (λa' w' hJ'=>ih _ _ _ ?_ hJ');obtain⟨o,ho,hl,_⟩:=jT (hJ0 _ _ _ hJ).1 hi;have hin:i<l.toArray.size:=(yAs.1 ho).1;have h:=QC (p:=λj=>!qU (L.setIfInBounds i true) j) (q:=λj=>!qU L j) l.toArray.size i hin (by simp[dY L i i (by rw[(hJ0 _ _ _ hJ).1];exact hin)]) (λj hj=>by simp[dY L i j (by rw[(hJ0 _ _ _ hJ).1];exact hin),hj]);simp[hl]at h;simp at hf⊢;omega
 refine Code.wpIn_mono (λe a' w' ⟨he,s,h1,h2⟩=>⟨s,by rw[he];exact h1,h2⟩) (wpIn_region_any hm (main _ _ _ _ (zHt _ _) ?_))
 have hf:∀i,qU (Array.replicate l.toArray.size false) i=false:=by
  intro i;unfold qU;simp only[zZq,Array.getElem?_replicate]
  split<;>rfl
 refine .inl ⟨⟨by simp,λi o _ hl=>?_⟩,λi _=>hf i,?_⟩
 ·rw[hf]at hl;cases hl
 ·rw[aX R 0 st λj _=>hf _];obtain⟨⟨X,β,hX,HH,Ht,KK,hJ,hD⟩,nd,gs,hl⟩:=H;have G:=xL.drew HH (w.drawn+1);exact⟨⟨X,β,hX,G.hok,λt=>(Ht t).evo G.evo,KK.goes G nd (G.lives HH nd),λi hi=>F.go G (hJ i hi),hD.goes HH G⟩,nd,gs,hl⟩
theorem zO2 (n:Nat) {Q:Exit->St->Prop} {id:Nat} {l:List Oper} {st:St} (hm:P.follows .mixedOrders=true)
  (hk:zY P F m l.toArray true (l.take n) st [] (λfs s=>TX l n (PO l) fs.reverse=true/\zY P F m l.toArray false (l.drop n) s [] (λ_ s=>Q .normal s))):uI P F m (.region id l.toArray true) st Q:=by
 obtain⟨es,st2,h1,h2,h3⟩:=hk.run;exact zEz n hm h1 LS h3.run
theorem zIn {l:List Oper} {n:Nat} {ops:Array Oper} {st:St} {fs:List FP} {Q':St->Prop} (hc:TX l n (PO l) fs.reverse=true) (hq:Q' st):zY P F m ops true [] st fs (λfs s=>TX l n (PO l) fs.reverse=true/\Q' s):=⟨⟨[],st,rfl,hc,hq⟩⟩
end
section
variable {P:Program} {TT:List TI} {st:St}
theorem DF (hP:uN P TT) {T e:Nat} {x l:Operand} {ti te:TI} {k:IntKind} (hx:yO (zG st.tm) x= .s (.slice none 0 0)) (hl:yO (zG st.tm) l= .s (.int k 0)) (hT:TT[T]? =some ti) (hd:ti.d= .slice e) (he:TT[e]? =some te):
  wR P st (.slice T x (some l) none none) (.s (.slice none 0 0)) [] [] []:=
 yR λoo X tm h w β a ho hg hr HH Ht=>by
  obtain⟨dst,op',type,pos,after,guard⟩:=oo;dsimp only at ho;subst ho;have hc:=vN Ht hg (x:=x) uG hx;obtain⟨u,hu,hd'⟩:=xU (hP _ _ hT) w;obtain rfl:=vP (hd'.trans hd);have hs:=uO (hP _ _ he) w;have hb:=gR (P:=P) Ht hg (lo:=some l) (hi:=none) (len:=0) (cap:=0) (l:=0) (r:=0) (λy hy=>by cases hy;simp[Op.operands]) (λy hy=>by cases hy) ⟨k,0,hl,zB⟩ rfl (zYs _) (zYs _) true;rw[yBt]at hb;exact⟨_,by simp only[execOp,Instr.sliceAt,Instr.slice,Sem.run_bind,hu,Result.andThen_ok,hc,yBt,hb,hs,Sem.run_pure];rfl,.fz _ _ (.s _)⟩
end
section
variable {P:Program} {TT:List TI} {K0:List Nat} {F:Fr K0} {m:Nat} {ops:Array Oper} {rest:List Oper} {Q:List FP->St->Prop} {tm:List (Nat×AV)} {h:List (Nat×xP)} {dr:Bool} {fs:List FP}
variable {ty:Nat} {pos:String} {after:Array Edge} {t:Nat}
theorem zAw (hP:uN P TT) {T e key off len sz:Nat} {d x:Operand} {ti te:TI} {xs yl ys zs:List AV} {xv:AV} (hdv:yO (zG tm) d= .ref key off len) (hk:zC h key=some (.arr sz xs false)) (hx:yO (zG tm) x=xv) (hT:TT[T]? =some ti) (hd:ti.d= .slice e) (he:TT[e]? =some te)
  (hyl:BL (zC h) xv=some yl) (hyt:yl.take len=ys) (hsz:∀y,ys[0]? =some y->y.cells.length=sz) (hp1:1<=ys.length) (hss:Nat.beq sz te.size=true) (hz:xs.take off++ys++xs.drop (off+ys.length)=zs) (hm:Nat.blt t m=true)
  (hr:zY P F m ops dr rest ⟨(t,.s (.int .i64 ys.length))::tm,(key,.arr sz zs false)::h⟩ (⟨true,[key],key::OB xv⟩::fs) Q):zY P F m ops dr (⟨some t,.call ⟨.builtin .copy, #[d,x], #[T,T]⟩,ty,pos,after,none⟩::rest) ⟨tm,h⟩ fs Q:=by
 subst hz;exact uF (nw:=[]) (zEt hP hdv hk hx hT hd he hyl hyt hsz hp1 hss) hm rfl rfl hr
theorem zTn (hP:uN P TT) {T e:Nat} {x:Operand} {ti:TI} {k len sz:Nat} {xs:List AV} (hx:yO (zG tm) x= .ref k 0 len) (hk:zC h k=some (.arr sz xs ⟨false,false⟩)) (hT:TT[T]? =some ti) (hd:ti.d= .slice e) (hl:1<=len) (hm:Nat.blt t m=true)
  (hr:∀c:Int,(xs.length:Int)<=c->zY P F m ops false rest ⟨(t,.s (.int .i64 c))::tm,h⟩ fs Q):zY P F m ops false (⟨some t,.call ⟨.builtin .cap, #[x], #[T]⟩,ty,pos,after,none⟩::rest) ⟨tm,h⟩ fs Q:=
 x_m (zAq hP hx hk hT hd hl) hm rfl (λv d ⟨c,_,_,e⟩=>by subst e;rfl) (λv d ⟨c,e1,e2,e3⟩=>by subst e1 e3;exact hr c e2)
theorem zCi (hP:uN P TT) {T e k len sz:Nat} {s x:Operand} {ti te:TI} {xs vs zs:List AV} {xv:AV} (hs:yO (zG tm) s= .ref k 0 len) (hk:zC h k=some (.arr sz xs ⟨false,false⟩)) (hx:yO (zG tm) x=xv) (hT:TT[T]? =some ti) (hd:ti.d= .slice e) (he:TT[e]? =some te) (hvs:BL (zC h) xv=some vs)
  (hss:Nat.beq sz te.size=true) (hsz:∀y,vs[0]? =some y->y.cells.length=sz) (hpos:1<=vs.length) (hl:1<=len) (hroom:len+vs.length<=xs.length) (hmax:xs.length<=1073741824) (hz:xs.take len++vs++xs.drop (len+vs.length)=zs) (hm:Nat.blt t m=true)
  (hr:zY P F m ops dr rest ⟨(t,.ref k 0 (len+vs.length))::tm,(k,.arr sz zs ⟨false,false⟩)::h⟩ (⟨true,[k],k::OB xv⟩::fs) Q):zY P F m ops dr (⟨some t,.call ⟨.builtin .append, #[s,x], #[T,T]⟩,ty,pos,after,none⟩::rest) ⟨tm,h⟩ fs Q:=by
 subst hz;exact uF (nw:=[]) (zEv hP hs hk hx hT hd he hvs hss hsz hpos hl hroom hmax) hm rfl rfl hr
theorem zTo (hP:uN P TT) {T I e c n N:Nat} {s x:Operand} {ti te tn:TI} {k0:IntKind} {nx:Int} {ys zs:List AV} {z:AV} (hs:yO (zG tm) s= .slc c ys) (hx:yO (zG tm) x= .s (.int .i64 nx)) (hT:TT[T]? =some ti) (hd:ti.d= .slice e) (he:TT[e]? =some te) (hI:TT[I]? =some tn) (hdn:tn.d= .int k0)
  (hb:Nat.ble te.bytes 65536=true) (hp:Nat.ble 1 te.size=true) (hzl:Nat.beq te.zero.length te.size=true) (hz1:te.zero.all (·.oneCell')=true) (hzc:Nat.beq (vX te).cells.length te.size=true) (hzc2:(vX te).cells=te.zero.map .s) (hz:vX te=z)
  (hnx:nx=(n:Int)) (hpos:1<=n) (hmax:ys.length+n<=1073741824) (hc:c<ys.length+n) (hw0:∀(i:Nat) (y:AV),ys[i]? =some y->y.cells.length=te.size) (hA:ys++List.replicate n z=zs) (hN:zs.length=N) (hm:Nat.blt t m=true) (hnn:(zC h t).isNone=true)
  {sz:Nat} (hse:te.size=sz) (hk:zY P F m ops dr rest ⟨(t,.ref t 0 N)::tm,(t,.arr sz zs false)::h⟩ (⟨true,[t,t],[]⟩::fs) Q):zY P F m ops dr (⟨some t,.call ⟨.builtin .append, #[s,x], #[T,I]⟩,ty,pos,after,none⟩::rest) ⟨tm,h⟩ fs Q:=by
 subst hse hz hN hA;exact uF (nw:=[t]) (zIf hP t hs hx hT hd he hI hdn hb hp hzl hz1 hzc hzc2 hnx hpos hmax hc hw0) hm (zEi hnn) rfl hk
end
theorem zIo (xs:List AV) (v:AV) (i:Nat) (hv:v.cells.length=5) (hx:∀y∈xs,y.cells.length=5) (h1:1<=xs.length) (hn:xs.length<=1000) (hi:i<=xs.length):
  zO 293 [.ref 1001 0 xs.length,iA i,.ref 98 0 1] [(1001,.arr 5 (xs++[fT 5]) false),(98,.arr 5 [v] false)] (.ref 1001 0 (xs.length+1)) [(1001,.arr 5 (xs.take i++v::xs.drop i) false),(98,.arr 5 [v] false)]:=by
 have hll:(xs++[fT 5]).length=xs.length+1:=by simp
 by_cases he:i=xs.length
 ·subst he
  have hz:(xs++[fT 5]).take xs.length++[v]++(xs++[fT 5]).drop (xs.length+[v].length)=xs.take xs.length++v::xs.drop xs.length:=by
   rw[yBg (zYs _),zYv,yCi,yCj zU];simp
  refine eM call293 λF hF=>?_
  (repeat' (first|refine qS ?_|refine xR (λhc=>?_) (λhc=>?_)|refine wE (λhc=>?_)|(refine zE ?_;first|(refine qD ?_;refine gZ tok rfl rfl rfl rfl rfl rfl rfl zB zB rfl ?_)|(refine yW ?_;refine zCi tok rfl rfl rfl rfl rfl rfl rfl rfl (λy hy=>by cases hy;exact hv) zU zB zU zB hz rfl ?_))|fail))
  exact zJ [1001,98] rfl rfl rfl rfl
 ·have hlt:i<xs.length:=by omega
  have e1:(xs++[fT 5]).drop i=xs.drop i++[fT 5]:=yCf zB;have hdl:(xs.drop i).length=xs.length-i:=zZk
  have hc1:(((xs++[fT 5]).drop i).take (xs.length+1-i)).take (xs.length+1-(i+1))=xs.drop i:=by
   have e3:((xs++[fT 5]).drop i).take (xs.length+1-i)=xs.drop i++[fT 5]:=by rw[e1];exact zYy wI
   rw[e3,yBg zB,zYy zB]
  have hz1:(xs++[fT 5]).take (i+1)++xs.drop i++(xs++[fT 5]).drop (i+1+(xs.drop i).length)=xs.take (i+1)++xs.drop i:=by
   have e3:(xs++[fT 5]).drop (i+1+(xs.drop i).length)=[]:=yCj (by rw[hll,hdl];omega);rw[e3,zZo,yBg zB]
  have hxd:∀y,(xs.drop i)[0]? =some y->y.cells.length=5:=λy hy=>hx y (zZn (zZ4 hy))
  have hc2:(([v].drop 0).take 1).take (xs.length+1-i)=[v]:=zYy wI
  have hz2:(xs.take (i+1)++xs.drop i).take i++[v]++(xs.take (i+1)++xs.drop i).drop (i+[v].length)=xs.take i++v::xs.drop i:=by
   have e2:(xs.take (i+1)).length=i+1:=by rw[zY5];omega
   rw[yBg zB,yD4,yCn zB,show i+[v].length=(xs.take (i+1)).length by rw[e2];rfl,yDq,zZc];rfl
  refine eM call293 λF hF=>?_
  (repeat' (first|refine qS ?_|refine xR (λhc=>?_) (λhc=>?_)|refine wE (λhc=>?_)|(refine zE ?_;refine xT ?_;(refine vT 307 ?_;refine yF (IR tok rfl rfl rfl rfl rfl rfl zB zB rfl rfl rfl zB rfl rfl rfl rfl rfl) rfl ?_))|(refine zE ?_;first|(refine qD ?_;first|refine gZ tok rfl rfl rfl rfl rfl rfl rfl zB zB rfl ?_|refine yF (zEs (N:=xs.length+1) tok rfl rfl rfl rfl rfl rfl zB zB zB zB) rfl ?_)|(refine zAw tok rfl rfl rfl rfl rfl rfl rfl (by first|exact hc1|exact hc2) (by first|exact hxd|(intro y hy;cases hy;exact hv)) (by first|(rw[hdl];omega)|simp) rfl (by first|exact hz1|exact hz2) rfl ?_)|(refine zTn tok rfl rfl rfl rfl zB rfl ?_;intro cp hcp))|fail))
  exact zJ [1001,98] rfl rfl rfl rfl
theorem zIp (xs:List AV) (v:AV) (i c:Nat) (hv:v.cells.length=5) (hx:∀y∈xs,y.cells.length=5) (h1:1<=xs.length) (hn:xs.length<=1000) (hi:i<=xs.length) (hc:c<xs.length+1):
  zO 293 [.slc c xs,iA i,.ref 98 0 1] [(98,.arr 5 [v] false)] (.sl false (xs.take i++v::xs.drop i)) [(98,.arr 5 [v] false)]:=by
 have hxi:∀(j:Nat) (y:AV),xs[j]? =some y->y.cells.length=5:=λj y hy=>hx y (zZ4 hy)
 by_cases he:i=xs.length
 ·subst he;refine eM call293 λF hF=>?_
  (repeat' (first|refine qS ?_|refine xR (λhc=>?_) (λhc=>?_)|refine wE (λhc=>?_)|(refine zE ?_;first|(refine yF (EX tok rfl rfl rfl) rfl ?_)|(refine qD ?_;refine zAr 10 rfl h1 ?_;refine ZE tok rfl rfl rfl rfl rfl (hxi 0) zB zB rfl rfl ?_)|(refine yW ?_;refine uF (nw:=[25]) (zEu tok 25 rfl rfl rfl rfl rfl rfl rfl rfl rfl rfl (λy hy=>by cases hy;exact hv) zU wI wI hxi) rfl rfl rfl ?_))|fail))
  refine zJ [98] rfl rfl ?_ rfl
  show AV.sl false ((xs++[v]).take (xs++[v]).length)=_
  rw[zYv,zYv,yCi]
 ·have hlt:i<xs.length:=by omega
  have hdl:(xs.drop i).length=xs.length-i:=zZk;have htl:(xs.take i).length=i:=by rw[zY5];omega
  have hxt:∀(j:Nat) (y:AV),(xs.take i)[j]? =some y->y.cells.length=5:=λj y hy=>hx y (zZ1 (zZ4 hy))
  have hxd:∀y,(xs.drop i)[0]? =some y->y.cells.length=5:=λy hy=>hx y (zZn (zZ4 hy))
  have hx0:∀y,xs[0]? =some y->y.cells.length=5:=hxi 0;have hnx:((xs.length:Int)+1-(i:Int))=((xs.length+1-i:Nat):Int):=by omega
  have hzs:∃zs,xs.take i++List.replicate (xs.length+1-i) (AV.agg [.s (.int .i64 0),.s (.int .i64 0),.s (.int .i64 0),.s (.int .i64 0),.s (.slice none 0 0)])=zs:=⟨_,rfl⟩;obtain⟨zs,hA⟩:=hzs;have hN:zs.length=xs.length+1:=by rw[<-hA,zYr,htl,zZ0];omega
  have hzt:zs.take i=xs.take i:=by rw[<-hA,yBg zB,zYy zB]
  have hc1:(([v].drop 0).take 1).take (xs.length+1-i)=[v]:=zYy wI;have hc2:(xs.drop i).take (xs.length+1-(i+1))=xs.drop i:=zYy zB;have hz1:zs.take i++[v]++zs.drop (i+[v].length)=xs.take i++[v]++zs.drop (i+1):=by rw[hzt];rfl
  have e2:(xs.take i++[v]).length=i+1:=by rw[zYr,htl];rfl
  have hz2:(xs.take i++[v]++zs.drop (i+1)).take (i+1)++xs.drop i++(xs.take i++[v]++zs.drop (i+1)).drop (i+1+(xs.drop i).length)=xs.take i++v::xs.drop i:=by
   have e3:(xs.take i++[v]++zs.drop (i+1)).drop (i+1+(xs.drop i).length)=[]:=yCj (by rw[zYr,e2,zZk,hN,hdl];omega);rw[e3,zZo,yBg zB,zYy zB,zZc];rfl
  refine eM call293 λF hF=>?_
  (repeat' (first|refine qS ?_|refine xR (λhc=>?_) (λhc=>?_)|refine wE (λhc=>?_)|(refine zE ?_;first|(refine yF (EX tok rfl rfl rfl) rfl ?_)|(refine yF (zId tok rfl rfl rfl) rfl ?_)|(refine qD ?_;first|(refine zAr 10 rfl h1 ?_;refine ZE tok rfl rfl rfl rfl rfl (hxi 0) zB zB rfl rfl ?_)|refine yF (zIe tok rfl rfl rfl rfl rfl hi) rfl ?_|refine gZ tok rfl rfl rfl rfl rfl rfl rfl zB zB rfl ?_|refine ZE tok rfl rfl rfl rfl rfl (hxi 0) zB zB rfl rfl ?_)|(refine yW ?_;refine zTo tok (n:=xs.length+1-i) rfl rfl rfl rfl rfl rfl rfl rfl rfl rfl rfl rfl rfl rfl hnx zB (by rw[htl];omega) (by rw[htl];omega) hxt hA hN rfl rfl rfl ?_)|(first|(refine zAr 0 rfl h1 ?_;refine zAw tok rfl rfl rfl rfl rfl rfl rfl hc1 (λy hy=>by cases hy;exact hv) zU rfl hz1 rfl ?_)|refine zAw tok rfl rfl rfl rfl rfl rfl rfl hc2 hxd (by rw[hdl];omega) rfl hz2 rfl ?_))|fail))
  refine zJ [98] rfl rfl ?_ rfl
  show AV.sl false ((xs.take i++v::xs.drop i).take (xs.length+1))=_
  rw[zYy (by rw[zYr,htl,zY2,hdl];omega)]
theorem zO3 (v:AV) (hv:v.cells.length=5):
  zO 293 [.s (.slice none 0 0),iA 0,.ref 98 0 1] [(98,.arr 5 [v] false)] (.sl false [v]) [(98,.arr 5 [v] false)]:=by
 refine eM call293 λF hF=>?_
 (repeat' (first|refine qS ?_|refine xR (λhc=>?_) (λhc=>?_)|refine wE (λhc=>?_)|(refine zE ?_;first|(refine qD ?_;refine yF (DF tok rfl rfl rfl rfl rfl) rfl ?_)|(refine yW ?_;refine LU tok rfl rfl rfl rfl rfl rfl (λy hy=>by cases hy;exact hv) rfl rfl rfl zU rfl ?_))|fail))
 exact zJ [98] rfl rfl rfl rfl
theorem vH (x:Rq):zO 218 [yL x] [] (bA true) []:=by
 refine eM call218 λF hF=>?_
 refine WW ?_;exact zL
theorem zIq (l:List Rq) (hn:l.length<=1000) (hb:∀r∈l,r.legs.length<=1000):
  zO 190 [zD yL l,.fn 218 []] [] (.ref 1001 0 (l.map yL).length) [(1001,.arr 5 (l.map yL) false)]:=by
 have hl:=zA yL l;refine eM call190 λF hF=>?_
 refine WW ?_;refine xK 5 1001 5 rfl rfl rfl ?_;refine yS (l) [1001] [] [1,8,9] [5,10,1,8,9] rfl (λi pre T U=>⟨(5,.ref 1001 0 (pre.map yL).length)::(10,iA i)::T,(1001,.arr 5 (pre.map yL) true)::U⟩) ?_;(conv=>whnf);refine⟨by rfl,?_,?_⟩
 ·intro i pre x post hx hi;have hy:=xO yL hx hi;have hlt:=yX hx hi;have hlm:=zA yL pre;have c1:=vH x;have c2:=VI x (hb x (wY hx));have e:(pre++[x]).map yL=pre.map yL++[yL x]:=by simp
  rw[e];clear hx e;generalize pre.map yL=R at *;refine xA (vD c1 c2) ?_;rfl
 ·(repeat' (first|refine AX ?_|refine xR (λhc=>?_) (λhc=>?_)|refine wE (λhc=>?_)|fail))
  refine jS [1001] [4] rfl rfl ?_;refine EV 1001 [4] rfl rfl rfl rfl rfl (yQ ?_);exact zJ [1001] rfl rfl rfl rfl
theorem zIr:zO 190 [zD yL [],.fn 218 []] [] (.s (.slice none 0 0)) []:=by
 refine eM call190 λF hF=>?_
 refine WW ?_;refine yS (([]:List Rq)) [] [] [1,8,9] [5,10,1,8,9] rfl (λi pre T U=>⟨(5,.s (.slice none 0 0))::(10,iA i)::T,U⟩) ?_;(conv=>whnf);refine⟨by rfl,?_,?_⟩
 ·intro i pre x post hx hi
  cases pre<;>cases hx
 ·(refine WW ?_)
  exact zJ [] rfl rfl rfl rfl
theorem IW (l:List Rq) (hn:l.length<=1000) (hb:∀r∈l,r.legs.length<=1000):
  zO 193 [zD yL l] [] (.ref 1001 0 (l.map yL).length) [(1001,.arr 5 (l.map yL) false)]:=by
 have c:=zIq l hn hb;refine eM call193 λF hF=>?_
 refine zW c ?_;exact zJ [1001] rfl rfl rfl rfl
theorem UM:zO 193 [zD yL []] [] (.s (.slice none 0 0)) []:=by
 have c:=zIr;refine eM call193 λF hF=>?_
 refine zW c ?_;exact zJ [] rfl rfl rfl rfl
section
variable {P:Program} {K0:List Nat} {F:Fr K0} {m:Nat}
theorem zCj (n len:Nat) {Q:Exit->St->Prop} {id:Nat} {l:List Oper} {st:St} (hlen:Nat.beq l.length len=true) (hm:P.follows .mixedOrders=true)
 (hk:zY P F m l.toArray true (l.take n) st [] (λfs s=>TX l n (PO l) fs.reverse=true/\zY P F m l.toArray false (l.drop n) s [] (λ_ s=>Q .normal s))):uI P F m (.region id l.toArray true) st Q:=zO2 n hm hk
end
def RB (l:List Rq) (id:Int):Nat:=l.findIdx λr=>!decide (r.id<id)
theorem IX (l:List Rq) (id:Int):RB l id<=l.length:=List.findIdx_le_length
theorem zIs {l:List Rq} {id:Int} {i:Nat} (h:i<RB l id):(l.getD i default).id<id:=by
 have h1:=IX l id;have:=List.not_of_lt_findIdx h;simpa [List.getD,show i<l.length by omega]using this
theorem zIt {l:List Rq} {id:Int} (h:RB l id<l.length):¬(l.getD (RB l id) default).id<id:=by
 have:=List.findIdx_getElem (p:=λr:Rq=>!decide (r.id<id)) (w:=h);have h2:RB l id<l.length:=h;simp only[yA3,zY9]at this;intro h3;refine this ?_;rw[zY0,zZd h2]at h3;exact h3
def bU (id:Int) (v:Vh) (life:Int) (x:List Lg) (now:Int):Rq:=⟨id,v.id,v.cls,now+life,x⟩
def aI (l:List Rq) (r:Rq):List Rq:=l.take (RB l r.id)++r::l.drop (RB l r.id)
def suE (l:List Rq) (q id life:Int) (x:List Lg):Int:=
 if¬(0<=id/\id<=4294967295/\1<=life/\life<=600/\vgF x=true)then 8 else if gI l id=true then 11 else if q<=l.length∨4<=(l.length:Int)then 14 else 0
theorem zIu (l:List Rq) (q id:Int) (v:Vh) (life:Int) (x:List Lg) (now:Int) (hv:aM l) (hq:(l.length:Int)<=q) (v0:0<=v.id) (v1:v.id<=4294967295) (w0:0<=v.cls) (w1:v.cls<=3) (n0:0<=now) (n1:now<=1073741824):
  zO 268 [zD yL l,iA q,iA id,vQ v,iA life,zD xW x,iA now] [] (.tup [zD yL (if suE l q id life x=0 then aI l (bU id v life x now)else []),iA (suE l q id life x)]) []:=by
 have h4:=hv.n4;have hl:=zA yL l;have c1:=VG l q hv hq;have c2:=PL v.id;have c3:=AY v.cls;have c4:=zBx now;have c5:=PL id;have c6:=zBw x;have c7:=NA l id zB;rw[zYu ⟨v0,v1⟩]at c2;rw[zYu ⟨w0,w1⟩]at c3;rw[zYu ⟨n0,n1⟩]at c4;by_cases g1:0<=id/\id<=4294967295
 case neg=>
  rw[zYw g1]at c5;have e:suE l q id life x=8:=zYp λh=>g1 ⟨h.1,h.2.1⟩
  rw[e,zYo xN];refine eM call268 λF hF=>?_
  refine xA (zt5 c1 c2 c3 c4 c5) ?_;exact zL
 rw[zYu g1]at c5;by_cases g2:1<=life/\life<=600
 case neg=>
  have e:suE l q id life x=8:=zYp λh=>g2 ⟨h.2.2.1,h.2.2.2.1⟩
  rw[e,zYo xN];by_cases g3:1<=life
  ·(refine eM call268 λF hF=>?_)
   refine xA (zt5 c1 c2 c3 c4 c5) ?_;exact zL
  ·(refine eM call268 λF hF=>?_)
   refine xA (zt5 c1 c2 c3 c4 c5) ?_;exact zL
 obtain⟨g2,g3⟩:=g2
 cases hg:vgF x with
 |false=>
  rw[hg]at c6;have e:suE l q id life x=8:=zYp λh=>zZb (hg.symm.trans h.2.2.2.2)
  rw[e,zYo xN];refine eM call268 λF hF=>?_
  refine xA (zt6 c1 c2 c3 c4 c5 c6) ?_;exact zL
 |true=>
 rw[hg]at c6
 have e0:suE l q id life x=if gI l id=true then 11 else if q<=l.length∨4<=(l.length:Int)then 14 else 0:=zYo λh=>h ⟨g1.1,g1.2,g2,g3,hg⟩
 cases hh:gI l id with
 |true=>
  have hx:=zAv (p:=λx:Rq=>x.id==id) (l:=l) hh;generalize TA (λx:Rq=>x.id==id) l=n at *;have e:suE l q id life x=11:=by rw[e0,zYp hh]
  rw[e,zYo xN];refine eM call268 λF hF=>?_
  refine xA (zt7 c1 c2 c3 c4 c5 c6 c7) ?_;exact zL
 |false=>
 have hx:=ZF (p:=λx:Rq=>x.id==id) (l:=l) (by simpa [gI]using hh);rw[hx]at c7;rw[zYo (by rw[hh];decide)]at e0;by_cases g4:q<=l.length∨4<=(l.length:Int)
 case pos=>
  rw[zYp g4]at e0;rw[e0,zYo xN];by_cases g5:q<=l.length
  ·(refine eM call268 λF hF=>?_)
   refine xA (zt7 c1 c2 c3 c4 c5 c6 c7) ?_;exact zL
  ·have g6:4<=(l.length:Int):=g4.resolve_left g5;refine eM call268 λF hF=>?_
   refine xA (zt7 c1 c2 c3 c4 c5 c6 c7) ?_;exact zL
 rw[zYo g4]at e0;rw[e0,zYp rfl];have hxl:=JU hg;have c8:=cT x zB;have hk:=IX l id;have hk1:=λi h=>zIs (l:=l) (id:=id) (i:=i) h
 have hk2:=zIt (l:=l) (id:=id)
 have hiQ:(l.map yL).take (RB l id)++yL (bU id v life x now)::(l.map yL).drop (RB l id)=(aI l (bU id v life x now)).map yL:=by
  unfold aI bU;rw[zYz,yAa,yCb,yCa]
 have hiL:((aI l (bU id v life x now)).map yL).length=(l.map yL).length+1:=by
  rw[<-hiQ,zYr,zY2,zY5,zZk];omega
 have h5:∀y∈l.map yL,y.cells.length=5:=λy hy=>by
  obtain⟨r,_,rfl⟩:=zZ3.1 hy;rfl
 have r1:=λh=>zIo (l.map yL) (yL (bU id v life x now)) (RB l id) rfl h5 h zB zB
 have r2:=λh c hc=>zIp (l.map yL) (yL (bU id v life x now)) (RB l id) c rfl h5 h zB zB hc
 have r3:=zO3 (yL (bU id v life x now)) rfl;rw[hiQ]at r1 r2;have d1:=IW l zB (λr hr=>by have:=hv.lg3 hr;omega);clear hv hg;have hR:zD yL (aI l (bU id v life x now))=AV.sl false ((aI l (bU id v life x now)).map yL):=rfl;rw[hR];by_cases hn0:l=[]
 ·subst hn0;have d0:=UM;have hY:(aI [] (bU id v life x now)).map yL=[yL (bU id v life x now)]:=rfl;rw[hY];clear r1 r2 hY hR hiQ hiL;refine eM call268 λF hF=>?_
  refine xA (zt7 c1 c2 c3 c4 c5 c6 c7) ?_;refine zP (0) [10] [10] [0,2,4,5,6,10] [16,0,2,4,5,6,10] rfl (λi T U=>⟨(16,iA i)::T,U⟩) ?_;(conv=>whnf);refine⟨by rfl,?_,?_⟩
  ·intro i hi;omega
  ·(refine xA (gK c8 d0 r3) ?_)
   exact zL
 have hl1:1<=l.length:=by
  cases l with
  |nil=>exact absurd rfl hn0
  |cons a b=>simp
 have r1:=r1 zB;have r2:=r2 zB;clear r3 hR hiQ;generalize (aI l (bU id v life x now)).map yL=Y at *;refine eM call268 λF hF=>?_
 refine xA (zt7 c1 c2 c3 c4 c5 c6 c7) ?_;refine zP (RB l id) [10] [10] [0,2,4,5,6,10] [16,0,2,4,5,6,10] rfl (λi T U=>⟨(16,iA i)::T,U⟩) ?_;(conv=>whnf);refine⟨by rfl,?_,?_⟩
 ·intro i hi;have hy:=zN yL l i zB;have hlt:=hk1 i hi;generalize l.getD i default=r at *;refine WW ?_;rfl
 ·clear hk1;by_cases hkl:RB l id<l.length
  case' pos=>
   have hy:=zN yL l (RB l id) hkl;have hge:=hk2 hkl;generalize l.getD (RB l id) default=r at*
  all_goals clear hk2
  all_goals generalize RB l id=k at*
  all_goals (have zc1:=c8;have zc2:=d1;(repeat' (first|refine WS ?_|refine SG (I2 (λhc=>?_) (λhc=>?_))|refine SG (λhc=>?_)|(refine zE ?_;first|refine SM ?_)|(first|refine zCj 5 8 rfl rfl ?_|first|refine SR ?_|refine SK (I2 (λhc=>?_) (λhc=>?_))|refine SK (λhc=>?_)|fail)|fail))<;>clear zc1 zc2)
  all_goals refine zIn OE ?_
  all_goals refine zTf 95 1001 ((l.map yL).length+1) [98] [96,98] (st':=⟨[(96,iA k),(98,.ref 98 0 1)],[(98,.arr 5 [yL (bU id v life x now)] false)]⟩) rfl rfl zB zB zB rfl rfl rfl (λc hc=>?_) ?_
  case' pos.refine_1|neg.refine_1=>
   have r2:=r2 c hc;refine zW r2 ?_;exact zL
  all_goals rw[show(l.map yL).length+1-(l.map yL).length=1 by omega]
  all_goals (refine zW r1 ?_)
  all_goals (refine zI [] rfl rfl ?_ rfl;show AV.tup [AV.sl false (Y.take ((l.map yL).length+1)),iA 0]=_;rw[zYy zB])
def fdQ (l:List Rq) (id:Int):Rq:=(l.find? λx=>x.id==id).getD ⟨0,0,0,0,[]⟩
theorem zCk {l pre post:List Rq} {x:Rq} {id:Int} (h:l=pre++x::post) (hn:∀y∈pre,y.id≠id) (hx:x.id=id):fdQ l id=x/\gI l id=true:=by
 subst h;have h1:pre.find? (λv=>v.id==id)=none:=yDk.2 λy hy=>by simpa using hn y hy
 refine⟨?_,by simp[gI,hx]⟩;unfold fdQ;rw[yEb,h1];simp[hx]
end Av
end Go.Proofs.YtmamjhmoegjapaaGreat
