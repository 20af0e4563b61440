/- Part 33. -/
import Derived.Test.YteajjdidebfcjaaGreatN32
namespace Go.Proofs.YteajjdidebfcjaaGreat
namespace Av
open Tryz
set_option linter.all false
set_option maxRecDepth 4000
set_option maxHeartbeats 8000000
instance:DecidableEq Wt:=λa b=>decidable_of_iff (a.ag=b.ag/\a.id=b.id/\a.jn=b.jn/\a.si=b.si) (by cases a;cases b;simp)
def AR (w:Wt):List Int:=[w.ag,w.id,w.jn,w.si]
def zCd {a b:Wt} (h:AR a=AR b):a=b:=by
 unfold AR at h;cases a;cases b;simp at h;obtain⟨rfl,rfl,rfl,rfl⟩:=h;rfl
def RO (W:List (Wt×Int)):List (List Int×Int):=W.map λp=>(AR p.1,p.2)
def SE (w:Wt) (v:Int):List (Wt×Int)->List (Wt×Int)
 | []=>[(w,v)]
 |p::r=>if w=p.1 then(w,v)::r else p::SE w v r
theorem KQ (w:Wt) (v:Int):∀W,aB (AR w) v (RO W)=RO (SE w v W)
 | []=>rfl
 |p::r=>by
  unfold RO SE aB;rw[yCh];dsimp only;by_cases h:w=p.1
  ·rw[yBd h,yBd (by rw[h]),yCh]
  ·rw[yBc h,yBc (λe=>h (zCd e)),yCh];have:=KQ w v r;unfold RO at this;rw[this]
theorem zCe {w:Wt} {v:Int}:∀{W:List (Wt×Int)} {p:Wt×Int},p∈SE w v W->p=(w,v)∨p∈W
 | [],p,h=> .inl (by simpa [SE]using h)
 | q::r,p,h=>by
  unfold SE at h;split at h
  ·rcases yCk.1 h with h|h
   ·exact .inl h
   ·exact .inr (yFk _ h)
  ·rcases yCk.1 h with h|h
   ·exact .inr (by rw[h];simp)
   ·exact(zCe h).imp id λh=>yFk _ h
def zCf (W:List (Wt×Int)):∀p∈RO W,p.1.length=4:=λp hp=>by
 obtain⟨q,_,rfl⟩:=yCc.1 hp;rfl
def FQ:List (Wt×Int)->Wt->Int
 | [],_=>0
 |p::r,w=>if p.1=w then p.2 else FQ r w
def GX (W:List (Wt×Int)):Prop:=(W.map (·.1)).Nodup
theorem WB:∀{W:List (Wt×Int)},GX W->∀{q},q∈W->FQ W q.1=q.2
 |p::r,h,q,hq=>by
  unfold GX at h;rw[yCh,yFc]at h;unfold FQ
  rcases yCk.1 hq with rfl|hq
  ·rw[yBd Z]
  ·rw[yBc (λe=>h.1 (by rw[e];exact yCc.2 ⟨q,hq,rfl⟩))];exact WB h.2 hq
theorem zGy:∀{W:List (Wt×Int)} {w:Wt},(∀q∈W,q.1≠w)->FQ W w=0
 | [],_,_=>rfl
 |p::r,w,h=>by
  unfold FQ;rw[yBc (h p zQ)];exact zGy λq hq=>h q (by simp[hq])
def zT1 (W:List (Wt×Int)) (w:Wt):FQ W w=0∨∃q∈W,q.1=w/\FQ W w=q.2:=by
 induction W with
 |nil=>exact .inl Z
 |cons p r ih=>
  unfold FQ;by_cases h:p.1=w
  ·rw[yBd h];exact .inr ⟨p,by simp,h,rfl⟩
  ·rw[yBc h];exact ih.imp id λ⟨q,h1,h2⟩=>⟨q,yFk _ h1,h2⟩
theorem FR (w:Wt) (v:Int):∀W:List (Wt×Int),GX W->GX (SE w v W)/\∀k∈(SE w v W).map (·.1),k=w∨k∈W.map (·.1)
 | [],_=>⟨by simp[GX,SE],λk hk=> .inl (by simpa [SE]using hk)⟩
 | p ::r,h=>by
  have h0:=h;unfold GX at h;rw[yCh,yFc]at h;unfold SE;by_cases e:w=p.1
  ·rw[yBd e];refine⟨?_,λk hk=> .inr ?_⟩
   ·unfold GX;rw[yCh,yFc];dsimp only;rw[e];exact h
   ·rw[yCh]at hk⊢;rw[<-e];exact hk
  ·rw[yBc e];obtain⟨i1,i2⟩:=FR w v r h.2;refine⟨?_,λk hk=>?_⟩
   ·unfold GX;rw[yCh,yFc];refine⟨λhm=>?_,i1⟩
    rcases i2 _ hm with h1|h1
    ·exact e h1.symm
    ·exact h.1 h1
   ·rw[yCh]at hk⊢
    rcases yCk.1 hk with hk|hk
    ·exact .inr (by rw[hk];simp)
    ·rcases i2 _ hk with h1|h1
     ·exact .inl h1
     ·exact .inr (yFk _ h1)
def afN (W:List (Wt×Int)) (l:List Wt):List (Wt×Int):=l.foldl (λN w=>SE w (FQ W w+1) N) []
def zGz (W:List (Wt×Int)) (l:List Wt) (w:Wt):afN W (l++[w])=SE w (FQ W w+1) (afN W l):=by
 unfold afN;rw[yF0];rfl
def zT9 (W:List (Wt×Int)) (l:List Wt):GX (afN W l)/\∀p∈afN W l,p.1∈l/\p.2=FQ W p.1+1:=by
 have key:∀(l:List Wt) (m:List Wt) (N:List (Wt×Int)),GX N->(∀p∈N,p.1∈m/\p.2=FQ W p.1+1)->GX (l.foldl (λN w=>SE w (FQ W w+1) N) N)/\∀p∈l.foldl (λN w=>SE w (FQ W w+1) N) N,p.1∈m++l/\p.2=FQ W p.1+1:=by
  intro l
  induction l with
  |nil=>intro m N h1 h2;exact⟨h1,λp hp=>by rw[yCd];exact h2 p hp⟩
  | cons w l ih=>
   intro m N h1 h2
   have:=ih (m++[w]) (SE w (FQ W w+1) N) (FR _ _ N h1).1 (λp hp=>by
    rcases zCe hp with rfl|hp
    ·exact⟨by simp,rfl⟩
    ·exact⟨by simp[(h2 p hp).1],(h2 p hp).2⟩)
   rw[yCa]at this;exact this
 have:=key l [] [] (by simp[GX]) (λp hp=>by cases hp);rw[yDk]at this;exact this
def zAa (W L:List (Wt×Int)) (w:Wt) (v:Int):Prop:=(v=1∨∃q∈W,q.1=w/\v=q.2+1)/\∀q∈W,q.1=w->q∈L∨v=q.2+1
def zG0 {W:List (Wt×Int)} (h:GX W) {w:Wt} {v:Int} (H:zAa W [] w v):v=FQ W w+1:=by
 rcases H.1 with h1|⟨q,hq,rfl,h1⟩
 ·by_cases hx:∃q∈W,q.1=w
  ·obtain⟨q,hq,rfl⟩:=hx
   rcases H.2 q hq Z with h2|h2
   ·cases h2
   ·rw[WB h hq];exact h2
  ·rw[zGy (λq hq e=>hx ⟨q,hq,e⟩)];omega
 ·rw[WB h hq];exact h1
def zXx:∀{W:List (Wt×Int)},GX W->∀{a b:Wt×Int},a∈W->b∈W->a.1=b.1->a=b:=λh a b ha hb e=>by
 have h1:=WB h ha;have h2:=WB h hb;rw[e,h2]at h1;exact Prod.ext e h1.symm
def zG1 {W M1 M2:List (Wt×Int)} {q:Wt×Int} {v:Int} (h:GX W) (hq:q∈W):zAa W (M1++M2) q.1 (q.2+1):=
 ⟨.inr ⟨q,hq,rfl,rfl⟩,λq' hq' e=> .inr (by rw[zXx h hq' hq e])⟩
def zEr {W M1 M2:List (Wt×Int)} {q:Wt×Int} {w:Wt} {v:Int} (hw:q.1≠w) (H:zAa W (M1++q::M2) w v):zAa W (M1++M2) w v:=
 ⟨H.1,λq' hq' e=>(H.2 q' hq' e).imp (λhm=>by
  rcases yBy.1 hm with hm|hm
  ·exact yBy.2 (.inl hm)
  ·rcases yCk.1 hm with rfl|hm
   ·exact absurd e hw
   ·exact yBy.2 (.inr hm)) id⟩
def WC (w:Wt) (v:Int) (p:Wt×Int) (r:List (Wt×Int)):SE w v (p::r)=if w=p.1 then(w,v)::r else p::SE w v r:=rfl
theorem zCg (w:Wt) (a b:Int):∀W,SE w a (SE w b W)=SE w a W
 | []=>by simp[SE]
 |p::r=>by
  rw[WC w b,WC w a p r];by_cases e:w=p.1
  ·rw[yBd e,yBd e,WC,yBd Z]
  ·rw[yBc e,yBc e,WC,yBc e,zCg w a b r]
def LA {L:List (Wt×Int)} {p:List Int×Int} {L1 L2:List (List Int×Int)} (h:RO L=L1++p::L2):∃M1 q M2,L=M1++q::M2/\p=(AR q.1,q.2)/\L1=RO M1/\L2=RO M2:=by
 unfold RO at h;obtain⟨M1,r,e1,e2,e3⟩:=List.map_eq_append_iff.1 h;obtain⟨q,M2,e4,e5,e6⟩:=List.map_eq_cons_iff.1 e3;exact⟨M1,q,M2,by rw[e1,e4],e5.symm,e2.symm,e6.symm⟩
def zCh {L:List (Wt×Int)} (h:RO L=[]):L=[]:=List.map_eq_nil_iff.1 h
def zCi (a b:List (Wt×Int)):RO a++RO b=RO (a++b):=by unfold RO;rw[yBn]
def yAc:KV prog TT 103 4:=⟨⟨_,_,rfl,rfl,rfl,rfl⟩,by kernel_rfl,by kernel_rfl⟩
def zXy:prog.underlying 96=some (.map 103 3):=by kernel_rfl
theorem zG2 {ob:Option Nat} {pm:Obj->Prop} (W:List (Wt×Int)) (hpm:∀o,pm o->fU (RO W) o) (hnd:GX W) (hPW:∀p∈W,0<=p.2/\p.2<=1000000) (l:List Wt) (hl:l.length<=1000):
  zO 46 [.fm ob pm,zD KU l] [] (.fm none (fU (RO (afN W l)))) []:=by
 have hll:=zA KU l;have hk:=yAc;have hM:=zXy;refine eM call46 λF hF=>?_
 (repeat' (first|refine uC ?_|((first|apply xE|apply xV)<;>intro hc)|(refine zE ?_;first|(refine zCm 1061 Z Z λb=>?_))|fail))
 refine zEy 0 Z (λbw ow hw=>?_);have hW:=hpm _ hw;refine yO (l) [1061] [] [0,5,11,12] [13,0,5,11,12] Z (λi pre T U=>⟨(13,iA i)::T,(1061,.obj (b,fU (RO (afN W pre))))::U⟩) ?_;(conv=>whnf);refine⟨by rfl,?_,?_⟩
 ·intro i pre w post hx hi;have hy:=xL KU hx hi;have hlt:=yQ hx hi;unfold KU at hy;rw[zGz];generalize afN W pre=N at *;have hN1:=zCf N;have hm:=KQ w 1 N;clear hx
  (repeat' (first|refine uC ?_|((first|apply xE|apply xV)<;>intro hc)|(refine zE ?_;first|(first|(refine FZ (k:=1061) (l:=AR w) (es:=RO N) tok hk hM Z Z Z Z Z hN1 ?_;rw[hm])|(refine EA 1062 hM Z hW Z Z λbi=>?_)))|fail))
  refine jF (W.length) [1061,1062,7] [7] [0,5,7,11,12,13,20] [0,5,7,11,12,13,20] Z (λzn T U zs=>∃(L:List (Wt×Int)) (v:Int) (cur:Option (List Int×Int)),(zn=L.length/\(∀q∈L,q∈W)/\zAa W L w v)/\zs=⟨T,(1061,.obj (b,fU (RO (SE w v N))))::(1062,.obj (bi,KW bw ow cur (RO L)))::U⟩) ?_;(conv=>whnf);refine⟨?_,?_⟩
  ·exact⟨W,1,none,⟨rfl,λ_ h=>h,.inl Z,λq hq _=> .inl hq⟩,rfl⟩
  rintro zn st ⟨L,v,cur,⟨rfl,hL,hV⟩,rfl⟩;have hN2:=zCf (SE w v N)
  (repeat' (first|refine uC ?_|((first|apply xE|apply xV)<;>intro hc)|(refine zE ?_;first|(refine LB (s:=0) (k:=1062) Z Z hW Z Z (λh0=>?_) (λp L1 L2 hp=>?_)))|fail))
  ·obtain rfl:=zCh h0;rw[<-zG0 hnd hV];rfl
  ·obtain⟨M1,q,M2,rfl,rfl,rfl,rfl⟩:=LA hp;rw[zCi];have hqW:q∈W:=hL q zQ;have hqb:=hPW q hqW;have hmm:∀x∈M1++M2,x∈W:=λx hx=>hL x zTj
   by_cases hqw:q.1=w
   ·have hbe:(AR q.1==AR w)=true:=by rw[hqw,yHb]
    have hV':zAa W (M1++M2) w (q.2+1):=by rw[<-hqw];exact zG1 (v:=v) hnd hqW
    have hm2:=KQ w (q.2+1) (SE w v N);rw[zCg]at hm2
    (repeat' (first|refine uC ?_|((first|apply xE|apply xV)<;>intro hc)|(refine zE ?_;first|(first|(refine QV (s:=0) (k:=1062) Z Z hW Z Z ?_)|(refine wO ?_;refine wK (zEd (ms:=AR q.1) (ns:=AR w) (v:=true) tok Z Z Z Z Z Z Z TM TM TM (.inl ⟨rfl,hbe.symm⟩)) Z ?_)|(refine FZ (k:=1061) (l:=AR w) (v:=q.2+1) (es:=RO (SE w v N)) tok hk hM Z Z Z Z Z hN2 ?_;rw[hm2])))|fail))
    exact⟨(M1++M2).length,by simp,M1++M2,q.2+1,some _,⟨rfl,hmm,hV'⟩,rfl⟩
   ·have hbe:(AR q.1==AR w)=false:=by
     rw[yCm];exact λe=>hqw (zCd e)
    have hV':zAa W (M1++M2) w v:=zEr hqw hV
    (repeat' (first|refine uC ?_|((first|apply xE|apply xV)<;>intro hc)|(refine zE ?_;first|(first|(refine QV (s:=0) (k:=1062) Z Z hW Z Z ?_)|(refine wO ?_;refine wK (zEd (ms:=AR q.1) (ns:=AR w) (v:=false) tok Z Z Z Z Z Z Z TM TM TM (.inl ⟨rfl,hbe.symm⟩)) Z ?_)))|fail))
    exact⟨(M1++M2).length,by simp,M1++M2,v,some _,⟨rfl,hmm,hV'⟩,rfl⟩
 ·refine EB (st':=⟨[(5,.fm none (fU (RO (afN W l)))),(13,iA (l.length:Int)),(12,iA ((l.map KU).length:Int))],[]⟩) 5 1061 [] [13,12] Z Z Z Z Z Z ?_;refine WW ?_;exact zJ
theorem KR {j:Jn} (J:JV j):∀n,n<=j.ph.length->0<=JW j.ph n/\JW j.ph n<=180
 |0,_=>⟨yC8 _,by show(0:Int)<=180;omega⟩
 |n+1,h=>by
  have ih:=KR J n zB;have hti:=J.ti n zB;unfold yP at hti;unfold JW UZ;omega
def zG3 (j:Jn) (J:JV j):zO 74 [wE j] [] (iA (XY j)) []:=by
 have hl:=zA wT j.ph;have hn:=J.n;have hst:=J.st;have hbd:=KR J;unfold XY;refine eM call74 λF hF=>?_
 refine WW ?_;refine zN (j.ph.length) [1] [1] [1,7,8] [3,9,1,7,8] Z (λi T U=>⟨(3,iA (JW j.ph i))::(9,iA i)::T,U⟩) ?_;(conv=>whnf);refine⟨by rfl,?_,?_⟩
 ·intro i hi;have hy:=zM wT j.ph i hi;have hti:=J.ti i hi;have hln:UZ (yP j i)<=60/\1<=UZ (yP j i):=by unfold UZ;omega
  have cn:=IF (yP j i) ⟨zB,zB,zB,zB⟩;have e:JW j.ph (i+1)=max (JW j.ph i) (UZ (yP j i)+(yP j i).yel+(yP j i).red):=rfl;rw[e];have h1:=hbd i zB
  change (j.ph.map wT)[i]? =some (wT (yP j i))at hy
  clear hbd e;generalize JW j.ph i=g at *;generalize UZ (yP j i)=n at *;generalize yP j i=q at *;refine zW cn ?_;rfl
 ·have h1:=hbd j.ph.length (yBg _);generalize JW j.ph j.ph.length=g at *;refine WW ?_;exact zJ
def dI (c:Cf):Nat->Int
 |0=>0
 |i+1=>max (dI c i) (QU c i)
theorem KS (c:Cf) {k:Nat}:∀{n},k<n->QU c k<=dI c n
 |n+1,h=>by
  unfold dI;by_cases e:k=n
  ·subst e;omega
  ·have:=KS c (k:=k) (n:=n) zB;omega
theorem zG4 {l:List Ag} (h:∀a∈l,a.req<=4):∀i,i<=l.length->NN l i<=4*i
 |0,_=>by simp[NN]
 |i+1,hi=>by
  have:=zG4 h i zB;have:=h _ (zS l i zB);unfold NN;omega
def WE {c:Cf} (h:RU c) {k:Nat} (hk:k<c.js.length):1<=QU c k/\QU c k<=1000000:=by
 have J:=h.jv _ (zS c.js k hk);have ht:=KR J _ (yBg _);have hst:=J.st;have hn:=J.n;have h1:=h.h;have h2:=h.l;have h3:=h.p;have h4:=h.cp;have hR:=KT (l:=c.ags) (λa ha=>by have:=(h.av a ha).q;omega) _ (yBg _);have m1:0<=c.cap*c.per/\c.cap*c.per<=100*600:=⟨yFn zB zB,yF4 zB zB zB zB⟩;have eT:XY (c.js.getD k default)=(c.js.getD k default).st+JW (c.js.getD k default).ph (c.js.getD k default).ph.length:=rfl;have m2:2*1<=(min (NN c.ags c.ags.length) ((c.js.getD k default).ph.length)+2)*(XY (c.js.getD k default)+c.hold+2):=yF4 zB zB zB zB;have m3:(min (NN c.ags c.ags.length) ((c.js.getD k default).ph.length)+2)*(XY (c.js.getD k default)+c.hold+2)<=10*400:=yF4 zB zB zB zB;unfold QU;omega
def PrB (y:Cy) (W:List (Wt×Int)):Prop:=∀p∈W,∃m:Nat,p.2=(m:Int)/\WtI y p.1 m
def zAb {y:Cy} (h:WM y) {W:List (Wt×Int)} (H:PrB y W):∀p∈W,(0<=p.2/\p.2<=1000000)/\p.2<dI y.c y.c.js.length:=λp hp=>by
 obtain⟨m,e,I⟩:=H p hp;obtain⟨k,hk,hb⟩:=I.bound h;have h1:=WE h.v hk;have h2:=KS y.c hk;omega
def AfR (W:List (Wt×Int)) (l:List Wt) (W':List (Wt×Int)):Prop:=∀p∈W',p.1∈l/\(p.2=1∨∃q∈W,q.1=p.1/\p.2=q.2+1)
def zG5 {y:Cy} (h:WM y) (H0:CyW y) {ins:List In} {R:Nat->DR} (hR:TkR y ins R) {W W':List (Wt×Int)} (H:PrB y W) (A:AfR W (wtL (qO y R)) W'):PrB (qO y R) W':=λp hp=>by
 obtain⟨a1,a2⟩:=A p hp
 rcases a2 with a2|⟨q,hq,e1,e2⟩
 ·exact⟨1,a2,WtI.first h hR a1⟩
 ·obtain⟨m,e3,I⟩:=H q hq;rw[e1]at I;exact⟨m+1,zB,I.next h H0 hR a1⟩
def zG6 {y y':Cy} (hc:y'.c=y.c) (hn:y'.now=y.now) (hg:y'.sg=y.sg) (hv:y'.sv=y.sv) (hd:y'.ds.map GY=y.ds.map GY) {W:List (Wt×Int)} (H:PrB y W):PrB y' W:=λp hp=>by
 obtain⟨m,e,I⟩:=H p hp;exact⟨m,e,I.same hc hn hg hv hd⟩
theorem CyW.same {y y':Cy} (W:CyW y) (hc:y'.c=y.c) (hg:y'.sg=y.sg) (hv:y'.sv=y.sv) (hd:y'.ds.map GY=y.ds.map GY):CyW y':=by
 refine⟨by rw[hc,hg,hv];exact W.w,λa ha=>?_⟩;have hl:=yB8 List.length hd;rw[yBe,yBe]at hl;have:=yB8 (λl=>l[a]?) hd;simp only[yBh,yBu ha,yBu (show a<y.ds.length by omega),Option.map_some,yCq]at this;have e:=yB8 Prod.fst this;have w:=W.n a zB;rw[yBl,yBu zB]at w;rw[yBl,yBu ha];exact e.trans w
def zUa {b:WK} (h:BrI b) (W:CyW b.y) (hn:b.y.now<1000000000) {e:Ev} (he:UR e):CyW (aC b e).b.y:=by
 have D:=aD h hn he
 cases hf:(aC b e).fl with
 |false=>
  obtain⟨_,d2,d3,_,d5⟩:=D.st h he hf;exact W.same D.c d2 d3 d5
 |true=>
  obtain⟨y',Td,M,er,_⟩:=D.t6 (D.f6 hf);obtain⟨hR,e1,_⟩:=M.tk;rw[er];dsimp only;rw[e1];exact W.tick h.y hR
def zOa (c:Cf):CyW (qB c).y:=by
 refine⟨λk hk=>?_,λa ha=>?_⟩
 ·have hk:k<c.js.length:=hk
  have e1:(qB c).y.sg.getD k default=jT (c.js.getD k default):=by
   show(c.js.map jT).getD k default=_
   simp[List.getD,hk]
  have e2:(qB c).y.sv.getD k default=RD (c.js.getD k default):=by
   show(c.js.map RD).getD k default=_
   simp[List.getD,hk]
  rw[e1,e2];exact⟨by show(-1:Int)<= -1;omega,by show(-1:Int)<_;omega,λh=>(by cases h),λ_ h0=>(by exfalso;revert h0;show¬(0:Int)<= -1;omega)⟩
 ·have ha':a<(NU c c.ags.length).length:=ha
  show((NU c c.ags.length).getD a default).rg.num=_
  unfold NU at ha'⊢;rw[yBe,yCy]at ha';rw[yBl,yBh,yCe ha'];rfl
def zOb {y:Cy} (h:WM y):(wtL y).length<=48:=by
 have hd4:y.ds.length<=4:=by have:=h.dl;have:=h.v.a;omega
 have hD:∀d'∈y.ds,(wtD y d').length<=12:=λd' hd'=>by
  have h1:=kX (wtR y d') 3 d'.rq (λr hr=>by
   have h2:=kX (AT y d' r) 1 r.legs (λg _=>RP y d' r g);have h3:=(h.di d' hd').v.lg3 hr;unfold wtR
   omega)
  have:=(h.di d' hd').v.n4;unfold wtD;omega
 have:=kX (wtD y) 12 y.ds hD;unfold wtL;omega
def AS (x:Int) (L:List (Wt×Int)):Int:=L.foldl (λa p=>max a p.2) x
theorem zCj (x a:Int):∀L,AS (max x a) L=max (AS x L) a
 | []=>rfl
 |p::r=>by
  show AS (max (max x a) p.2) r=max (AS (max x p.2) r) a
  rw[<-zCj (max x p.2) a r]
  congr 1
  omega
def zOc (x:Int) (M1:List (Wt×Int)) (q:Wt×Int) (M2:List (Wt×Int)):AS x (M1++q::M2)=AS (max x q.2) (M1++M2):=by
 have e:∀y,AS y (M1++M2)=AS (AS y M1) M2:=λy=>by unfold AS;rw[yF0]
 rw[e,zCj];unfold AS;rw[yF0];rfl
theorem zG7 {B:Int}:∀{L:List (Wt×Int)} {x:Int},0<=x->x<B->(∀p∈L,p.2<B)->0<=AS x L/\AS x L<B
 | [],x,h0,h1,_=>⟨h0,h1⟩
 |p::r,x,h0,h1,h=>by
  have:=h p zQ;exact zG7 (L:=r) (x:=max x p.2) zB zB λq hq=>h q (by simp[hq])
abbrev WX:=List (Wt×Int)×Int
noncomputable def stX (b:WK) (s:WX) (e:Ev):WX:=if(aC b e).fl=true then(afN s.1 (wtL (aC b e).b.y),AS s.2 (afN s.1 (wtL (aC b e).b.y)))else s
noncomputable def rnW:WK->WX->List Ev->WX
 |_,s,[]=>s
 |b,s,e::l=>rnW (aC b e).b (stX b s e) l
def zOd (b:WK) (s:WX) (l m:List Ev):rnW b s (l++m)=rnW (gJ b l) (rnW b s l) m:=by
 induction l generalizing b s with
 |nil=>rfl
 |cons e l ih=>exact ih _ _
structure WxI (y:Cy) (s:WX):Prop where
 w:CyW y
 p:PrB y s.1
 d:GX s.1
 x:0<=s.2/\s.2<dI y.c y.c.js.length
theorem WxI.step {b:WK} (h:BrI b) {s:WX} (H:WxI b.y s) (hn:b.y.now<1000000000) {e:Ev} (he:UR e):WxI (aC b e).b.y (stX b s e):=by
 have D:=aD h hn he;have hw:=zUa h H.w hn he;unfold stX
 cases hf:(aC b e).fl with
 |false=>
  rw[yBc yBw];obtain⟨d1,d2,d3,_,d5⟩:=D.st h he hf;exact⟨hw,zG6 D.c d1 d2 d3 d5 H.p,H.d,by rw[D.c];exact H.x⟩
 | true=>
  rw[yBd Z];obtain⟨y',Td,M,er,_⟩:=D.t6 (D.f6 hf);obtain⟨hR,e1,_⟩:=M.tk;have ey:(aC b e).b.y=qO b.y (dtR b.y (eK b.ss)):=by rw[er];exact e1
  obtain⟨n1,n2⟩:=zT9 s.1 (wtL (aC b e).b.y)
  have hp:PrB (aC b e).b.y (afN s.1 (wtL (aC b e).b.y)):=by
   rw[ey]at n2⊢;refine zG5 h.y H.w hR H.p λp hp=>?_
   obtain⟨a1,a2⟩:=n2 p hp;refine⟨a1,?_⟩
   rcases zT1 s.1 p.1 with h1|⟨q,h1,h2,h3⟩
   ·left;omega
   ·exact .inr ⟨q,h1,h2,zB⟩
  have hB:=zAb D.i.y hp;refine⟨hw,hp,n1,zG7 H.x.1 ?_ λp hp=>(hB p hp).2⟩;rw[D.c];exact H.x.2
theorem zG8:∀(l:List Ev) {b:WK} {s:WX},BrI b->WxI b.y s->(∀e∈l,UR e)->b.y.now+(l.length:Int)<1000000000->WxI (gJ b l).y (rnW b s l)
 | [],_,_,_,H,_,_=>H
 |e::l,b,s,h,H,he,hn=>by
  rw[yBp]at hn;have D:=aD h zB (he e zQ);have Dn:=D.n;exact zG8 l D.i (H.step h zB (he e zQ)) (λx hx=>he x MT) zB
def zOe {c:Cf} (h:RU c):dI c c.js.length<=1000000:=by
 have key:∀i,i<=c.js.length->dI c i<=1000000:=λi=>by
  induction i with
  |zero=>intro _;simp[dI]
  |succ i ih=>
   intro hi;have h1:=ih zB;have h2:=WE h (k:=i) zB;unfold dI;omega
 exact key _ (yBg _)
def zG9 {c:Cf} (hc:RU c):0<dI c c.js.length:=by
 have hj:=hc.j;have h1:=KS c (k:=0) (n:=c.js.length) zB;have h2:=WE hc (k:=0) zB;omega
def zCk {c:Cf} (hc:RU c):WxI (qB c).y ([],0):=⟨zOa c,λp hp=>(by cases hp),by simp[GX],yC8 _,zG9 hc⟩
theorem zHa (c:Cf) (hc:RU c) (l:List Ev) (hl:l.length<=1000000) (he:∀e∈l,UR e):zO 16 [wN c,zD uY l] [] (iA (rnW (qB c) ([],0) (l.take 400)).2) []:=by
 have k1:=zCn c hc;have hb:=EC c hc;have hX:=zCk hc;have hll:=zA uY l;have h0:(qB c).y.now=0:=rfl;have ht4:(l.take 400).length<=400:=by rw[yB4];omega
 have hm4:∀e∈l.take 400,UR e:=λe h=>he e (yDb h)
 unfold dU YT at k1;refine eM call16 λF hF=>?_
 (have zc1:=k1;(repeat' (first|refine uC ?_|((first|apply xE|apply xV)<;>intro hc)|(refine zE ?_;first|(refine zCm 1061 Z Z λb=>?_))|fail))<;>clear zc1)
 have tk4:l.take (min ((l.map uY).length:Int) 400).toNat=l.take 400:=by
  rw[yBe];by_cases h:l.length<=400
  ·rw[yBo zB,yBo zB]
  ·congr 1
   omega
 rw[tk4];have hl4:=zA uY (l.take 400);generalize l.take 400=l4 at *;refine EB 6 1061 [5] [5,6,7,22,23,24] Z Z Z Z Z Z ?_;refine kF (l4) [5] [] [5,22,23] [6,7,24,5,22,23] Z (λi pre T U zs=>∃(ob:Option Nat) (pm:Obj->Prop),(∀o,pm o->fU (RO (rnW (qB c) ([],0) pre).1) o)/\zs=⟨(6,.fm ob pm)::(7,iA (rnW (qB c) ([],0) pre).2)::(24,iA i)::T,(5,.box [zD wE (gJ (qB c) pre).y.c.js,zD vB (gJ (qB c) pre).y.c.ags,iA (gJ (qB c) pre).y.c.per,iA (gJ (qB c) pre).y.c.cap,iA (gJ (qB c) pre).y.c.hold,iA (gJ (qB c) pre).y.c.lock,bA false,iA (gJ (qB c) pre).y.now,zD zI (gJ (qB c) pre).y.ds,zD wY (gJ (qB c) pre).y.sg,zD wV (gJ (qB c) pre).y.sv,zD iA (gJ (qB c) pre).y.st,zD vQ (gJ (qB c) pre).y.vw,zD jN (gJ (qB c) pre).ss])::U⟩) ?_;(conv=>whnf);refine⟨?_,?_,?_⟩
 ·exact⟨none,_,λ_ h=>h,rfl⟩
 ·rintro i pre x post st hx hi ⟨ob,pm,hpm,rfl⟩;have hy:=xL uY hx hi;have hlt:=yQ hx hi;have hpm4:∀e∈pre,UR e:=λe h=>hm4 e (by rw[hx];simp[h])
  have hpl:pre.length<=l4.length:=by rw[hx];simp
  have hxe:=hm4 x (by rw[hx];simp);obtain⟨p1,p2,p3,p4,p5⟩:=zCq pre hb hpm4 (by rw[h0];omega);have D:=aD p1 zB hxe;have kd:=D.k;have e1:gJ (qB c) (pre++[x])=(aC (gJ (qB c) pre) x).b:=zCp _ _ _;have e2:rnW (qB c) ([],0) (pre++[x])=stX (gJ (qB c) pre) (rnW (qB c) ([],0) pre) x:=zOd _ _ _ _;have H:=zG8 pre hb hX hpm4 (by rw[h0];omega);have H':=H.step p1 zB hxe;have hB:=zAb p1.y H.p;have hB':=zAb D.i.y H'.p;have cw:=zEu _ D.i.y;unfold uB aI at cw;rw[D.i.y.rf]at cw;have hwl:=zOb D.i.y;have hl0:dI (aC (gJ (qB c) pre) x).b.y.c (aC (gJ (qB c) pre) x).b.y.c.js.length<=1000000:=zOe D.i.y.v;have hx0:=H'.x;have hxx:=H.x;have hl1:=hl0;rw[D.c]at hl0;have ca:=zG2 (ob:=ob) (pm:=pm) (rnW (qB c) ([],0) pre).1 hpm H.d (λp hp=>(hB p hp).1) (wtL (aC (gJ (qB c) pre) x).b.y) zB;rw[e1,e2];unfold stX at hx0 hB'⊢;clear D e1 e2 hx hpm4 H H' hB;unfold dU YT uY sdA at kd;unfold uY at hy;generalize rnW (qB c) ([],0) pre=s0 at *;generalize aC (gJ (qB c) pre) x=r at *;generalize gJ (qB c) pre=b0 at *;obtain⟨W0,x0⟩:=s0;obtain⟨rb,S,f,fl⟩:=r;dsimp only at *;cases fl
  ·rw[yBc yBw];refine zW kd ?_;exact⟨ob,pm,hpm,rfl⟩
  ·rw[yBd Z]at hx0 hB'⊢;have hM:=zXy;generalize afN W0 (wtL rb.y)=N at *;refine yS (vH kd cw) ?_;refine zE ?_;refine wA ?_;refine uF 46 ?_;refine wK (zL ca Z Z Z Z Z) Z ?_;refine zOo (ob:=none) 42 Z (λbw ow hw=>?_)
   (repeat' (first|refine uC ?_|((first|apply xE|apply xV)<;>intro hc)|(refine zE ?_;first|(refine EA 1062 hM Z hw Z Z λbi=>?_))|fail))
   refine jF (N.length) [1062,5] [5] [5,6,22,23,24,44] [7,5,6,22,23,24,44] Z (λzn T U zs=>∃(L:List (Wt×Int)) (v:Int) (cur:Option (List Int×Int)),(zn=L.length/\(∀q∈L,q∈N)/\(0<=v/\v<1000000)/\AS v L=AS x0 N)/\zs=⟨(7,iA v)::T,(1062,.obj (bi,KW bw ow cur (RO L)))::U⟩) ?_;(conv=>whnf);refine⟨?_,?_⟩
   ·exact⟨N,x0,none,⟨rfl,λ_ h=>h,zB,rfl⟩,rfl⟩
   rintro zn st ⟨L,v,cur,⟨rfl,hL,hV,hmx⟩,rfl⟩
   (repeat' (first|refine uC ?_|((first|apply xE|apply xV)<;>intro hc)|(refine zE ?_;first|(refine LB (s:=6) (k:=1062) Z Z hw Z Z (λh0=>?_) (λp L1 L2 hp=>?_)))|fail))
   ·obtain rfl:=zCh h0;rw[<-hmx];exact⟨some bw,_,λo h=>by rw[h];exact hw,rfl⟩
   ·obtain⟨M1,q,M2,rfl,rfl,rfl,rfl⟩:=LA hp;rw[zCi];have hqb:=hB' q (hL q zQ);have hmm:∀x∈M1++M2,x∈N:=λx hx=>hL x zTj
    rw[zOc]at hmx
    (repeat' (first|refine uC ?_|((first|apply xE|apply xV)<;>intro hc)|(refine zE ?_;first|(refine QV (s:=6) (k:=1062) Z Z hw Z Z ?_))|fail))
    exact⟨(M1++M2).length,by simp,M1++M2,max v q.2,some _,⟨rfl,hmm,zB,hmx⟩,rfl⟩
 ·rintro st ⟨ob,pm,hp,rfl⟩;refine WW ?_;exact zJ
def zUb (c:Cf) (h:RU c) (k:Nat) (hk:k<c.js.length):zO 40 [wN c,iA (k:Int)] [] (iA (QU c k)) []:=by
 have hjl:=zA wE c.js;have hal:=zA vB c.ags;have J:=h.jv _ (zS c.js k hk);have tc:=zG3 _ J;have hy:=zM wE c.js k hk;have ht:=KR J _ (yBg _);have hst:=J.st;have hn:=J.n;have h1:=h.h;have h2:=h.l;have h3:=h.p;have h4:=h.cp;have h5:=h.j;have h6:=h.a;have hR0:=KT (l:=c.ags) (λa ha=>by have:=(h.av a ha).q;omega);have hR1:=zG4 (l:=c.ags) (λa ha=>(h.av a ha).q.2);have hR2:=hR0 _ (yBg _);have hR3:=hR1 _ (yBg _);have hQ:=λa ha=>(h.av a ha).q
 have m1:0<=c.cap*c.per/\c.cap*c.per<=100*600:=⟨yFn zB zB,yF4 zB zB zB zB⟩;have eT:XY (c.js.getD k default)=(c.js.getD k default).st+JW (c.js.getD k default).ph (c.js.getD k default).ph.length:=rfl;have m2:2*1<=(min (NN c.ags c.ags.length) ((c.js.getD k default).ph.length)+2)*(XY (c.js.getD k default)+c.hold+2):=yF4 zB zB zB zB;have m3:(min (NN c.ags c.ags.length) ((c.js.getD k default).ph.length)+2)*(XY (c.js.getD k default)+c.hold+2)<=10*400:=yF4 zB zB zB zB;have e:QU c k=c.lock+c.cap*c.per+(min (NN c.ags c.ags.length) ((c.js.getD k default).ph.length)+2)*(XY (c.js.getD k default)+c.hold+2):=rfl;rw[e];have hT:0<=XY (c.js.getD k default)/\XY (c.js.getD k default)+c.hold+2<=400:=by omega
 clear e J eT h;generalize c.js.getD k default=jn at *;generalize JW jn.ph jn.ph.length=tn at *;generalize XY jn=tr at *;have hpl:=zA wT jn.ph;unfold wN;unfold wE at hy tc;refine eM call40 λF hF=>?_
 refine WW ?_;refine yO (c.ags) [2,5] [2,5] [2,5,25,26] [6,27,2,5,25,26] Z (λi pre T U=>⟨(6,iA (NN c.ags i))::(27,iA i)::T,U⟩) ?_;(conv=>whnf);refine⟨by rfl,?_,?_⟩
 ·intro i pre a post hx hi;have hya:=xL vB hx hi;have hlt:=yQ hx hi;have hq:=hQ a (wZ hx);have b0:=hR0 i zB;have b1:=hR1 i zB
  have ea:NN c.ags (i+1)=NN c.ags i+a.req:=by
   show NN c.ags i+(c.ags.getD i default).req=_
   rw[hx,<-hi];simp[List.getD]
  rw[ea];clear ea hx hR0 hR1 hQ m2 m3 hR2 hR3;unfold vB at hya;generalize NN c.ags i=s at *;refine WW ?_;rfl
 ·generalize NN c.ags c.ags.length=R at *;rw[Int.min_comm,<-yBe (f:=wT)]at m2 m3⊢;refine zW tc ?_;exact zJ
def zOf (c:Cf) (h:RU c):zO 17 [wN c] [] (iA (dI c c.js.length)) []:=by
 have hjl:=zA wE c.js;have hc:=zUb c h;have h5:=h.j
 have hb:∀i,i<=c.js.length->0<=dI c i/\dI c i<=1000000:=λi=>by
  induction i with
  |zero=>intro _;simp[dI]
  |succ i ih=>
   intro hi;have h1:=ih zB;have h2:=WE h (k:=i) zB;unfold dI;omega
 have hbb:=λk hk=>WE h (k:=k) hk
 unfold wN at *;refine eM call17 λF hF=>?_
 refine WW ?_;refine zN (c.js.length) [1] [1] [1,7] [3,8,1,7] Z (λi T U=>⟨(3,iA (dI c i))::(8,iA i)::T,U⟩) ?_;(conv=>whnf);refine⟨by rfl,?_,?_⟩
 ·intro i hi;have k1:=hc i hi;have b1:=hb i zB;have b2:=hbb i hi;have e:dI c (i+1)=max (dI c i) (QU c i):=rfl;rw[e];clear hc hb hbb e;generalize dI c i=x at *;generalize QU c i=z at *;refine zW k1 ?_;rfl
 ·(refine WW ?_)
  exact zJ
def NM (k:Int):Ev:=⟨k,0,0,0,[]⟩
def zCl {k:Int} (h:1<=k/\k<=6):UR (NM k):=⟨h,by dsimp only[NM];omega,by dsimp only[NM];omega,by dsimp only[NM];omega,kU,yBt _⟩
def zEs (c:Cf) (h:RU c):∃(S:List (List Int)) (f q1 q2:List Int),GZ (qB c) [NM 1,NM 6]=[(S,f)]/\0<S.length/\(S.length:Int)=jP c.ags c.ags.length/\S.getD 0 []=90::165::1::17::q1/\7<=q1.length/\f=90::165::1::21::q2/\7<=q2.length:=by
 have hb:=EC c h;have hw:=h.ag;have hsb:=jG hw c.ags.length (yBg _);have hca:=h.a;have hnl:(qB c).ss.length=(jP c.ags c.ags.length).toNat:=by unfold qB;exact yCw
 have d1:=aD hb (by show(0:Int)<_;omega) (zCl (k:=1) zB);have e1:=d1.s (.inl Z)
 have hin:inR (qB c) (NM 1).s=true:=by
  unfold inR;rw[yBi];dsimp only[NM];omega
 have e2:AU (qB c) (NM 1)=⟨(qB c).y,(qB c).ss.set 0 ⟨true,false,[],false⟩⟩:=by
  unfold AU;rw[yBd hin]
  have:(qB c).ss.getD 0 default=⟨false,false,[],false⟩:=by
   unfold qB;dsimp only;rw[yBl,yC7,yBd zB];rfl
  show(⟨_,(qB c).ss.set 0 (ssF (NM 1) ((qB c).ss.getD 0 default))⟩:WK)=_
  rw[this];rfl
 have i1:=d1.i;rw[e1]at i1;dsimp only at i1;have hn1:(AU (qB c) (NM 1)).y.now=0:=by rw[e2];rfl
 have d2:=aD i1 (by rw[hn1];omega) (zCl (k:=6) zB);obtain⟨y',Td,hM,e3,_⟩:=d2.t6 Z
 have er:GZ (qB c) [NM 1,NM 6]=[(Td.map XX,XX [PA ((AU (qB c) (NM 1)).y.now+1) y'.vw])]:=by
  unfold GZ;rw[e1];dsimp only;rw[yBc yBw,yDk];unfold GZ;rw[e3];dsimp only;rw[yBd Z];rfl
 have hll:(eK (AU (qB c) (NM 1)).ss).length=(qB c).ss.length:=by unfold eK;rw[yBe,e2,yC3]
 have hTl:=hM.l
 have hi0:(eK (AU (qB c) (NM 1)).ss).getD 0 default=⟨true,[]⟩:=by
  unfold eK;rw[e2,yBl,yBh,yC0 zB];rfl
 obtain⟨l1,l2,d,t1,t2,t3⟩:=hM.on 0 zB (by rw[hi0]);rw[hi0]at t2;have t2':l1=[]:=yCb t2;subst t2';rw[yDk]at t1;have b1:=(zCw _ t3).1.2 (by simp[MX,stM]);have b2:=(zCw _ hM.f).1.2 (by simp[PA]);obtain⟨q1,b1,b3⟩:=b1;obtain⟨q2,b2,b4⟩:=b2;refine⟨_,_,q1++XX l2,q2++[],er,by rw[yBe];omega,by rw[yBe,hTl,hll,hnl];omega,?_,by rw[yBf];omega,?_,by rw[yBf];omega⟩
 ·rw[yBl,yBh];rw[yBl]at t1
  cases hg:Td[0]? with
  |none=>
   rw[hg]at t1;cases t1
  |some x=>
   rw[hg]at t1;have t1:x=_:=t1
   show XX x=_
   rw[t1]
   show bsM _++XX l2=_
   rw[b1];rfl
 ·show bsM _++[]=_
  rw[b2];rfl
def zHb:zO 36 [] [] (bA true) []:=by
 have kn:=zTg [] zQ;have kc:=DN d00 63;have hv:=zS6 d00 63 zB
 have k:=zX8 (PR d00 63) hv [NM 1,NM 6] zQ (λe he=>by
  simp only[yCk,yFo,yGp]at he
  rcases he with rfl|rfl
  ·exact zCl zB
  ·exact zCl zB)
 obtain⟨S,f,q1,q2,h1,h2,h3,h4,h5,h6,h7⟩:=zEs (PR d00 63) hv;rw[show([NM 1,NM 6]:List Ev).take 400=[NM 1,NM 6]from Z,h1]at k;rw[show jP (PR d00 63).ags (PR d00 63).ags.length=1 by rfl]at h3;generalize PR d00 63=c at *;generalize cfD d00 63=e0 at*
 obtain⟨s0,S,rfl⟩:∃s0 S',S=s0::S':=by
  cases S with
  |nil=>cases h2
  |cons s S=>exact⟨s,S,rfl⟩
 have h4:s0=_:=h4;subst h4;unfold wN at *;have hq1:=zA yA q1;rw[show zD sdP [(((90::165::1::17::q1):List Int)::S,f)]= .sl false [.agg [.sl false (.sl false (yA 90::yA 165::yA 1::yA 17::q1.map yA)::S.map (zD yA)),zD yA f]]from Z]at k;have hSl:=zA (zD yA) S;generalize S.map (zD yA)=Sm at *;generalize q1.map yA=Q1 at *;rw[yBp]at h2 h3;have hz0:Sm.length=0:=by omega
 have hz1:(AV.sl false (yA 90::yA 165::yA 1::yA 17::Q1)::Sm).length=1:=by rw[yBp,hz0]
 have hz2:(yA 90::yA 165::yA 1::yA 17::Q1).length=q1.length+4:=by simp only[yBp];omega
 refine eM call36 λF hF=>?_
 (have zc1:=kn;have zc2:=kc;have zc3:=k;(repeat' (first|refine bW ?_|((first|apply xE|apply xV)<;>intro hc)|(refine zE ?_;first|(refine yR ?_;refine TR 4 Z Z Z ?_;refine TR 5 Z Z Z ?_;refine qH tok Z Z ?_))|refine SB ?_|fail))<;>clear zc1 zc2 zc3)
 exact zJ
def WF (l:List Ev) (e:Ev):(l++[e]).map uY=l.map uY++[uY e]:=by simp
theorem LK.app2 {a b:List Ev} {n m:Nat} (h:LK a n) (h2:LK b m):LK (a++b) (n+m):=
 ⟨by have:=h.1;have:=h2.1;rw[yBf];omega,λx hx=>(yBy.1 hx).elim (h.2 x) (h2.2 x)⟩
theorem LK.of {l:List Ev} (h:∀e∈l,UR e):LK l l.length:=⟨yBg _,h⟩
def FS:Ev:=⟨6,0,0,0,[]⟩
def FT:UR FS:=evb zB zB zB zB kU zQ
def zXz (s:Nat):Ev:=⟨1,s,0,0,[]⟩
structure BtR (c:Cf) (cm:Bool) (g:Int) (d:Dk) (b:List Int) (d':Dk) (m0 m1:Ms) (dA dC:Dk) (q0 q1 b2:List Int) (d5:Dk):Prop where
 k0:zO 54 [.ptr 1000 0 0,wN c,iA g,bA cm] [(1000,dZ d)] (yB m0) [(1000,dZ dA)]
 f0:zO 13 [yB m0] [] (.ref 1031 0 (q0.map yA).length) [(1031,.arr 1 (q0.map yA) true)]
 k1:zO 54 [.ptr 1000 0 0,wN c,iA g,bA cm] [(1000,dZ (ad dA))] (yB m1) [(1000,dZ dC)]
 f1:zO 13 [yB m1] [] (zD yA q1) []
 h2:b2=if nx dA 3=2 then q0++q1 else q0
 h5:d5=if nx dA 3=2 then dC else ad dA
 sp:cm=false->nx d5 7=6->zO 30 [zD yA b2,iA (nx (ad d5) 99),iA (nx (ad (ad d5)) 1024)] [] (zD yA b) []
 hb:¬(cm=false/\nx d5 7=6)->b=b2
 hd:d'=if cm=true then d5 else if nx d5 7=6 then ad (ad (ad d5))else ad d5
 l0:q0.length<=210
 l1:q1.length<=210
def zX0 (c:Cf) (hc:CfW c) (cm:Bool) (g:Int) (hg:0<=g/\g<256) (d:Dk):∃(b:List Int) (d':Dk),(BY b/\b.length<=1000/\rem d'<=rem d)/\∃m0 m1 dA dC q0 q1 b2 d5,BtR c cm g d b d' m0 m1 dA dC q0 q1 b2 d5:=by
 obtain⟨m0,dA,h0,r0,k0⟩:=SJ c hc g hg cm d;obtain⟨q0,y0,l0,f0,_⟩:=EU m0 h0;obtain⟨m1,dC,h1,r1,k1⟩:=SJ c hc g hg cm (ad dA);obtain⟨q1,y1,l1,f1⟩:=EV m1 h1;have ra:=wG dA
 obtain⟨b2,hb2⟩:∃b2,b2=if nx dA 3=2 then q0++q1 else q0:=⟨_,rfl⟩
 obtain⟨d5,hd5⟩:∃d5,d5=if nx dA 3=2 then dC else ad dA:=⟨_,rfl⟩
 have yb:BY b2/\b2.length<=420:=by
  rw[hb2];split
  ·exact⟨λx hx=>(yBy.1 hx).elim (y0 x) (y1 x),by rw[yBf];omega⟩
  ·exact⟨y0,zB⟩
 have r5:rem d5<=rem d:=by rw[hd5];split<;>omega
 have r6:=wG d5;have r7:=wG (ad d5);have r8:=wG (ad (ad d5));have b7:=yC (ad (ad d5)) 1024 zB;obtain⟨q,yq,lq,kq⟩:=zGv b2 yb.1 zB (nx (ad d5) 99) (nx (ad (ad d5)) 1024) zB;refine⟨if cm=false/\nx d5 7=6 then q else b2,if cm=true then d5 else if nx d5 7=6 then ad (ad (ad d5))else ad d5,⟨?_,?_,?_⟩,m0,m1,dA,dC,q0,q1,b2,d5,k0,f0,k1,f1,hb2,hd5,λh1 h2=>?_,λh=>yBc h,rfl,l0,l1⟩
 ·split
  ·exact yq
  ·exact yb.1
 ·split<;>omega
 ·split
  ·omega
  ·split<;>omega
 ·rw[yBd ⟨h1,h2⟩];exact kq
def scR (c:Cf) (n:Nat) (cm:Bool) (p q:List Ev×Dk):Prop:=
 (nx (ad p.2) 12<=3/\q=(p.1++[FS],ad (ad p.2)))∨
 (nx (ad p.2) 12=4/\q=(p.1++List.replicate (nx (ad (ad p.2)) 6+1).toNat FS,ad (ad (ad p.2))))∨
 (nx (ad p.2) 12=5/\∃e d',q=(p.1++[e],d')/\zO 53 [.ptr 1000 0 0,wN c,iA (nx p.2 (max 1 (n:Int))),bA cm] [(1000,dZ (ad (ad p.2)))] (uY e) [(1000,dZ d')])∨
 (6<=nx (ad p.2) 12/\∃b d',q=(p.1++[⟨3,nx p.2 (max 1 (n:Int)),0,0,b⟩],d')/\∃m0 m1 dA dC q0 q1 b2 d5,BtR c cm (zAl c.ags (nx p.2 (max 1 (n:Int)))) (ad (ad p.2)) b d' m0 m1 dA dC q0 q1 b2 d5)
def zX1 (c:Cf) (hc:CfW c) (ha:FD c.ags) (n:Nat) (hn:n<=8) (cm:Bool) (p:List Ev×Dk) (hp:∀e∈p.1,UR e) (hl:p.2.a<p.2.l.length):
  ∃q,scR c n cm p q/\(∀e∈q.1,UR e)/\p.1.length<q.1.length/\q.1.length<=p.1.length+6/\rem q.2<rem p.2:=by
 obtain⟨l,d⟩:=p;dsimp only at hp hl;have r0:=zVz d hl;have r1:=wG (ad d);have b0:=yC d (max 1 (n:Int)) zB;have b1:=yC (ad d) 12 zB;have b2:=yC (ad (ad d)) 6 zB;have r2:=wG (ad (ad d));have one:∀e,UR e->∀x∈l++[e],UR x:=λe he x hx=>(yBy.1 hx).elim (hp x) λhx=>by rw[yCf.1 hx];exact he
 have len:∀e:Ev,(l++[e]).length=l.length+1:=λe=>by rw[yBf,yDu]
 by_cases h3:nx (ad d) 12<=3
 ·exact⟨_,.inl ⟨h3,rfl⟩,one _ FT,by dsimp only;rw[len];omega,by dsimp only;rw[len];omega,by dsimp only;omega⟩
 by_cases h4:nx (ad d) 12=4
 ·refine⟨_,.inr (.inl ⟨h4,rfl⟩),λx hx=>(yBy.1 hx).elim (hp x) λhx=>by rw[(yFa.1 hx).2];exact FT,?_,?_,by dsimp only;omega⟩
  ·dsimp only;rw[yBf,yCw];omega
  ·dsimp only;rw[yBf,yCw];omega
 by_cases h5:nx (ad d) 12=5
 ·obtain⟨e,d',he,hr,k⟩:=zUz c (nx d (max 1 (n:Int))) zB zB cm (ad (ad d));exact⟨_,.inr (.inr (.inl ⟨h5,e,d',rfl,k⟩)),one _ he,by dsimp only;rw[len];omega,by dsimp only;rw[len];omega,by dsimp only;omega⟩
 ·have hg:=zUy ha (nx d (max 1 (n:Int)));obtain⟨b,d',⟨yb,lb,hr⟩,h⟩:=zX0 c hc cm (zAl c.ags (nx d (max 1 (n:Int)))) zB (ad (ad d));exact⟨_,.inr (.inr (.inr ⟨by dsimp only;omega,b,d',rfl,h⟩)),one _ (show UR ⟨3,nx d (max 1 (n:Int)),0,0,b⟩from evb zB zB zB zB yb lb),by dsimp only;rw[len];omega,by dsimp only;rw[len];omega,by dsimp only;omega⟩
def zEt (c:Cf) (hc:CfW c) (ha:FD c.ags) (n:Nat) (hn:n<=8) (cm:Bool) (l:List Ev) (d:Dk) (hl:LK l 100):
  ∃(f:Nat->List Ev×Dk) (N:Nat),f 0=(l,d)/\(∀i,i<N->scR c n cm (f i) (f (i+1))/\(f i).2.a<(f i).2.l.length/\(f i).1.length<150)/\¬((f N).2.a<(f N).2.l.length/\(f N).1.length<150)/\LK (f N).1 156/\∀i,i<=N->(f i).1.length<=156:=by
 obtain⟨f,f0,hf⟩:=zN3 (λ_ (p:List Ev×Dk)=>∀e∈p.1,UR e) (λ_ p q=>p.2.a<p.2.l.length->scR c n cm p q/\p.1.length<q.1.length/\q.1.length<=p.1.length+6/\rem q.2<rem p.2)
  (λi p hp=>by
   by_cases h:p.2.a<p.2.l.length
   ·obtain⟨q,h1,h2,h3,h4,h5⟩:=zX1 c hc ha n hn cm p hp h;exact⟨q,λ_=>⟨h1,h3,h4,h5⟩,h2⟩
   ·exact⟨p,λh'=>absurd h' h,hp⟩) (l,d) hl.2
 have hst:∃k,¬((f k).2.a<(f k).2.l.length/\(f k).1.length<150):=by
  refine yD6 λhc=>?_
  have hall:∀k,(f k).2.a<(f k).2.l.length/\(f k).1.length<150:=λk=>yD6 λh=>hc ⟨k,h⟩
  have hlen:∀k,k<=(f k).1.length:=λk=>by
   induction k with
   |zero=>exact yBt _
   |succ k ih=>have:=((hf k).2 (hall k).1).2.1;omega
  have:=hlen 150;have:=(hall 150).2;omega
 obtain⟨k,hk⟩:=hst;obtain⟨N,_,hN,hmin⟩:=zM3 (P:=λk=>¬((f k).2.a<(f k).2.l.length/\(f k).1.length<150)) k hk;have hlt:∀i,i<N->(f i).2.a<(f i).2.l.length/\(f i).1.length<150:=λi hi=>yD6 λh=>hmin i hi h
 have hle:∀i,i<=N->(f i).1.length<=156:=λi hi=>by
  cases i with
  |zero=>rw[f0];have:=hl.1;dsimp only;omega
  |succ i=>
   have h1:=hlt i zB;have h2:=((hf i).2 h1.1).2.2.1;omega
 exact⟨f,N,f0,λi hi=>⟨((hf i).2 (hlt i hi).1).1,hlt i hi⟩,hN,⟨hle N (yBg _),(hf N).1⟩,hle⟩
def drE (g:Nat):Ev:=⟨4,0,g,0,dK (2000+10*g)⟩
def rgE (c:Cf) (F:Nat×Nat->List Int) (g v:Nat):Ev:=⟨3,AX c.ags g c.ags.length,0,0,F (g,v)⟩
def l1E (i:Nat):List Ev:=(List.range i).map zXz
def l2E (c:Cf) (F:Nat×Nat->List Int) (n:Nat):Nat->List Ev
 |0=>l1E n
 |g+1=>l2E c F n g++[drE g]++(List.range 3).map (rgE c F g)
theorem zAc (c:Cf) (hc:CfW c) (ha:FD c.ags) (cm:Bool) (d:Dk):∃(l:List Ev) (d':Dk),LK l 160/\zO 19 [.ptr 1000 0 0,wN c,bA cm] [(1000,dZ d)] (.ref 1001 0 (l.map uY).length) [(1000,dZ d'),(1001,.arr 5 (l.map uY) true)]:=by
 have ks:=zPc c ha;have hb1:=jG ha c.ags.length (yBg _);have han:=ha.1;obtain⟨n,hn⟩:∃n:Nat,jP c.ags c.ags.length=(n:Int):=⟨(jP c.ags c.ags.length).toNat,zB⟩;rw[hn]at ks;have hn8:n<=8:=by omega
 clear hb1 hn;have hal:=zA vB c.ags
 obtain⟨fR,hfR⟩:=Classical.skolem.1 (λp:Nat×Nat=>show∃q,p.1<4/\p.2<3->BY q/\q.length<=210/\zO 13 [yB ⟨4,(p.1:Int)::0::dK (1000+(p.1:Int)),[(p.2:Int),(p.2:Int).tmod 2],[]⟩] [] (zD yA q) []from by
  by_cases h:p.1<4/\p.2<3
  ·obtain⟨q,h1,h2,h3⟩:=EV _ (zU0 (p.1:Int) (p.2:Int) zB zB);exact⟨q,λ_=>⟨h1,h2,h3⟩⟩
  ·exact⟨[],λh'=>absurd h' h⟩)
 have hl2:∀g,g<=c.ags.length->LK (l2E c fR n g) (n+4*g):=λg=>by
  induction g with
  |zero=>
   intro _;refine⟨by simp[l2E,l1E],λe he=>?_⟩;obtain⟨s,hs,rfl⟩:=yCc.1 he;rw[yBz]at hs;exact evb zB zB zB zB kU zQ
  | succ g ih=>
   intro hg;have h1:=zAk ha (g:Int) c.ags.length (yBg _);have h2:LK [drE g] 1:=⟨yBg _,λe he=>by rw[yCf.1 he];exact evb zB zB zB zB (ZM _) (by rw[jA];omega)⟩
   have h3:LK ((List.range 3).map (rgE c fR g)) 3:=⟨by simp,λe he=>by
    obtain⟨v,hv,rfl⟩:=yCc.1 he;rw[yBz]at hv;obtain⟨q1,q2,_⟩:=hfR (g,v) ⟨by dsimp only;omega,hv⟩
    exact evb zB zB zB zB q1 zB⟩
   exact(((ih zB).app2 h2).app2 h3).le zB
 have hL:=(hl2 c.ags.length (yBg _)).app FT;obtain⟨f,N,f0,hf,hend,hfl,hle⟩:=zEt c hc ha n hn8 cm (l2E c fR n c.ags.length++[FS]) d (hL.le zB);refine⟨(f N).1++[FS],(f N).2,(hfl.app FT).le zB,?_⟩;generalize hW:((f N).1++[FS]).map uY=W;unfold wN at *;refine eM call19 λF hF=>?_
 refine zW ks ?_;refine xC 7 1001 5 Z Z Z ?_;refine zN (n) [1001,4,1000] [4,1000] [0,2,4,8,17] [7,18,0,2,4,8,17] Z (λi T U=>⟨(7,.ref 1001 0 ((l1E i).map uY).length)::(18,iA i)::T,(1001,.arr 5 ((l1E i).map uY) true)::U⟩) ?_;(conv=>whnf);refine⟨by rfl,?_,?_⟩
 ·intro i hi;have e:(l1E (i+1)).map uY=(l1E i).map uY++[uY (zXz i)]:=by unfold l1E;rw[yDs,yBn];simp
  have hln:((l1E i).map uY).length=i:=by simp[l1E]
  rw[e];generalize (l1E i).map uY=X at*
  (repeat' (first|refine bW ?_|((first|apply xE|apply xV)<;>intro hc)|(refine zE ?_;first|(refine yR ?_;refine TR 23 Z Z Z ?_;refine qH tok Z Z ?_))|refine SB ?_|fail))
  rfl
 ·(refine WW ?_)
  refine zN ((c.ags.map vB).length) [1001,4,1000] [4,1000] [0,2,4,8,29] [7,30,0,2,4,8,29] Z (λi T U=>⟨(7,.ref 1001 0 ((l2E c fR n i).map uY).length)::(30,iA i)::T,(1001,.arr 5 ((l2E c fR n i).map uY) true)::U⟩) ?_;(conv=>whnf);refine⟨by rfl,?_,?_⟩
  ·intro g hg;have kc:=eU (2000+10*(g:Int));have kb:=zPd c ha (g:Int);have kt:=eU (1000+(g:Int));have ky:=aV (g:Int) 0 (dK (1000+(g:Int))) (by rw[jA];omega) zB zB zB zB;have hln:=(hl2 g zB).1;have hln2:((l2E c fR n g).map uY).length=(l2E c fR n g).length:=yBe ..;have e2:(l2E c fR n (g+1)).map uY=((l2E c fR n g).map uY++[uY (drE g)])++((List.range 3).map (rgE c fR g)).map uY:=by simp[l2E]
   rw[e2];unfold wN at kb;generalize (l2E c fR n g).map uY=X at*
   (have zc1:=kc;(repeat' (first|refine bW ?_|((first|apply xE|apply xV)<;>intro hc)|(refine zE ?_;first|(refine yR ?_;refine qH tok Z Z ?_))|refine SB ?_|fail))<;>clear zc1)
   refine zN (3) [1001,4,1000] [4,1000] [0,2,4,8,10,29,30] [7,42,0,2,4,8,10,29,30] Z (λi T U=>⟨(7,.ref 1001 0 (X++[uY (drE g)]++((List.range i).map (rgE c fR g)).map uY).length)::(42,iA i)::T,(1001,.arr 5 (X++[uY (drE g)]++((List.range i).map (rgE c fR g)).map uY) true)::U⟩) ?_;(conv=>whnf);refine⟨by(rw[show X++[uY (drE g)]++((List.range 0).map (rgE c fR g)).map uY=X++[uY (drE g)]from yCd _];rfl),?_,?_⟩
   ·intro v hv;have kf:=(hfR (g,v) ⟨by dsimp only;omega,hv⟩).2.2;dsimp only at kf;have e3:X++[uY (drE g)]++((List.range (v+1)).map (rgE c fR g)).map uY=X++[uY (drE g)]++((List.range v).map (rgE c fR g)).map uY++[uY (rgE c fR g v)]:=by rw[yDs];simp
    have hl3:(X++[uY (drE g)]++((List.range v).map (rgE c fR g)).map uY).length<=100:=by simp;omega
    rw[e3];unfold yB at kf;rw[show uY (rgE c fR g v)= .agg [iA 3,iA (AX c.ags g c.ags.length),iA 0,iA 0,zD yA (fR (g,v))]from Z];generalize X++[uY (drE g)]++((List.range v).map (rgE c fR g)).map uY=Y at *;generalize fR (g,v)=fr at *;generalize AX c.ags g c.ags.length=bz at *;generalize dK (1000+(g:Int))=sc at*
    (have zc1:=kb;have zc2:=kt;have zc3:=ky;have zc4:=kf;(repeat' (first|refine bW ?_|((first|apply xE|apply xV)<;>intro hc)|(refine zE ?_;first|(refine yR ?_;refine qH tok Z Z ?_))|refine SB ?_|fail))<;>clear zc1 zc2 zc3 zc4)
    rfl
   ·(refine WW ?_)
    rfl
  ·rw [hal];have hl9:=(hl2 c.ags.length (yBg _)).1;have hl10:((l2E c fR n c.ags.length).map uY).length=(l2E c fR n c.ags.length).length:=yBe ..
   (repeat' (first|refine bW ?_|((first|apply xE|apply xV)<;>intro hc)|(refine zE ?_;first|(refine yR ?_;refine TR 66 Z Z Z ?_;refine qH tok Z Z ?_))|refine SB ?_|fail))
   refine zN (N) [1000,1001,4] [4] [0,2,4,8] [7,0,2,4,8] Z (λi T U=>⟨(7,.ref 1001 0 ((f i).1.map uY).length)::T,(1000,dZ (f i).2)::(1001,.arr 5 ((f i).1.map uY) true)::U⟩) ?_;(conv=>whnf);refine⟨by(rw[f0,WF];rfl),?_,?_⟩
   ·intro i hi;obtain⟨hR,hlt,h150⟩:=hf i hi;have hml:((f i).1.map uY).length=(f i).1.length:=yBe ..;clear hf hend hfl hle f0 hL hl9 hl10 hl2 hfR ks;generalize f (i+1)=q at *;generalize f i=p at *;obtain⟨l,d⟩:=p;dsimp only at *;have lf:=zKv d;rw[yBk hlt]at lf;have b1:=yC d (max 1 (n:Int)) zB;have b2:=yC (ad d) 12 zB;have n1:=yH d (max 1 (n:Int)) zB zB;have n2:=yH (ad d) 12 zB zB;have ko:=zI5 c ha (nx d (max 1 (n:Int))) zB zB;unfold scR wN at hR;unfold wN at ko;generalize nx d (max 1 (n:Int))=s at *;generalize nx (ad d) 12=k at *;generalize ad (ad d)=d2 at *;generalize ad d=d1 at*
    rcases hR with⟨h3,rfl⟩|⟨h4,rfl⟩|⟨h5,e,d',rfl,kd⟩|⟨h6,b,d',rfl,m0,m1,dA,dC,q0,q1,e2,d5,hB⟩
    ·dsimp only;rw[WF,show uY FS= .agg [iA 6,iA 0,iA 0,iA 0,.sl false []]from Z];generalize l.map uY=X at *;have:k=0∨k=1∨k=2∨k=3:=by omega
     rcases this with h|h|h|h
     all_goals
      (have zc1:=lf;have zc2:=n1;have zc3:=n2;(repeat' (first|refine bW ?_|((first|apply xE|apply xV)<;>intro hc)|(refine zE ?_;first|(refine yR ?_;refine TR 128 Z Z Z ?_;refine qH tok Z Z ?_))|refine SB ?_|fail))<;>clear zc1 zc2 zc3)
      rfl
    ·dsimp only;have n3:=yH d2 6 zB zB;have b3:=yC d2 6 zB;generalize ad d2=d3 at *;obtain⟨z,hz⟩:∃z:Nat,nx d2 6=(z:Int):=⟨(nx d2 6).toNat,zB⟩;rw[hz]at n3 b3⊢;rw[show((z:Int)+1).toNat=z+1 by omega,yBn,yEy,show uY FS= .agg [iA 6,iA 0,iA 0,iA 0,.sl false []]from Z];generalize l.map uY=X at*
     (have zc1:=lf;have zc2:=n1;have zc3:=n2;have zc4:=n3;(repeat' (first|refine uC ?_|((first|apply xE|apply xV)<;>intro hc)|fail))<;>clear zc1 zc2 zc3 zc4)
     refine zN ((z+1)) [1001,4,1000] [4,1000] [0,2,4,8] [7,13,0,2,4,8] Z (λi T U=>⟨(7,.ref 1001 0 (X++List.replicate i (AV.agg [iA 6,iA 0,iA 0,iA 0,.sl false []])).length)::(13,iA ((z:Int)-i))::T,(1001,.arr 5 (X++List.replicate i (AV.agg [iA 6,iA 0,iA 0,iA 0,.sl false []])) true)::U⟩) ?_;(conv=>whnf);refine⟨by(rw[yFt,yCd,show(z:Int)-(0:Nat)=z by omega];rfl),?_,?_⟩
     ·intro r hr;have hlr:(X++List.replicate r (AV.agg [iA 6,iA 0,iA 0,iA 0,.sl false []])).length<=200:=by simp;omega
      rw[show List.replicate (r+1) (AV.agg [iA 6,iA 0,iA 0,iA 0,.sl false []])=List.replicate r (AV.agg [iA 6,iA 0,iA 0,iA 0,.sl false []])++[AV.agg [iA 6,iA 0,iA 0,iA 0,.sl false []]]from yF9,<-yCa,show(z:Int)-((r+1:Nat):Int)=(z:Int)-r-1 by omega];generalize X++List.replicate r (AV.agg [iA 6,iA 0,iA 0,iA 0,.sl false []])=Y at *;have z0:0<=(z:Int)-r:=by omega
      have z1:(z:Int)-r<=10:=by omega
      generalize (z:Int)-r=w at*
      (repeat' (first|refine bW ?_|((first|apply xE|apply xV)<;>intro hc)|(refine zE ?_;first|(refine yR ?_;refine TR 140 Z Z Z ?_;refine qH tok Z Z ?_))|refine SB ?_|fail))
      rfl
     ·rw[show(z:Int)-((z+1:Nat):Int)= -1 by omega];refine WW ?_;rfl
    ·dsimp only;rw[WF];generalize l.map uY=X at*
     (have zc1:=lf;have zc2:=n1;have zc3:=n2;have zc4:=kd;(repeat' (first|refine bW ?_|((first|apply xE|apply xV)<;>intro hc)|(refine zE ?_;first|(refine yR ?_;refine qH tok Z Z ?_))|refine SB ?_|fail))<;>clear zc1 zc2 zc3 zc4)
     rfl
    ·dsimp only;rw[WF,show uY ⟨3,s,0,0,b⟩= .agg [iA 3,iA s,iA 0,iA 0,zD yA b]from Z];obtain⟨k0,f0,k1,f1,h2,g5,sp,hb',hd',l0,l1⟩:=hB;unfold wN yB at *;have n3:=yH dA 3 zB zB;have n4:=yH d5 7 zB zB;have n5:=yH (ad d5) 99 zB zB;have n6:=yH (ad (ad d5)) 1024 zB zB;have c3:=yC dA 3 zB;have c4:=yC d5 7 zB;have m0:=zA yA q0;have m1:=zA yA q1;generalize l.map uY=X at *;generalize nx dA 3=u at *;generalize nx d5 7=v at *;by_cases hu:u=2
     ·rw[yBd hu]at h2 g5;subst g5;subst h2;have em:zD yA (q0++q1)= .sl false (q0.map yA++q1.map yA):=by unfold zD;rw[yBn]
      rw[em]at sp;have ez:zD yA (q0++q1)= .sl false (List.take (q0.map yA++q1.map yA).length (List.drop 0 (q0.map yA++q1.map yA))):=by rw[em,yCg,yBj]
      cases cm with
      |true=>
       rw[yBd Z]at hd';subst hd';have hbe:=hb' (λh=>by cases h.1);subst hbe;rw[ez];clear sp hb'
       (have zc1:=lf;have zc2:=n1;have zc3:=n2;have zc4:=ko;have zc5:=k0;have zc6:=f0;have zc7:=n3;have zc8:=k1;have zc9:=f1;have zc10:=n4;have zc11:=n5;have zc12:=n6;(repeat' (first|refine bW ?_|((first|apply xE|apply xV)<;>intro hc)|(refine zE ?_;first|(refine yR ?_;refine uO [1000,1001,4] [0,2,4,8,116,119] Z ?_;(conv=>whnf);refine qH tok Z Z ?_)|(refine yM ?_;refine kC tok Z Z Z Z Z Z Z Z Z Z Z (yV _ _ (λ_=>rfl)) zB Z ?_))|refine SB ?_|fail))<;>clear zc1 zc2 zc3 zc4 zc5 zc6 zc7 zc8 zc9 zc10 zc11 zc12)
       rfl
      | false=>
       rw[yBc yBw]at hd';by_cases hv:v=6
       ·rw[yBd hv]at hd';subst hd';have sp:=sp Z hv;clear hb'
        (have zc1:=lf;have zc2:=n1;have zc3:=n2;have zc4:=ko;have zc5:=k0;have zc6:=f0;have zc7:=n3;have zc8:=k1;have zc9:=f1;have zc10:=n4;have zc11:=n5;have zc12:=n6;have zc13:=sp;have zf1:=(⟨⟩:FzD 30 [1000,1001,4] [0,2,4,7,8,12,110,112,114]);(repeat' (first|refine bW ?_|((first|apply xE|apply xV)<;>intro hc)|(refine zE ?_;first|(refine yR ?_;refine uO [1000,1001,4] [0,2,4,8,116,119] Z ?_;(conv=>whnf);refine qH tok Z Z ?_)|(refine yM ?_;refine kC tok Z Z Z Z Z Z Z Z Z Z Z (yV _ _ (λ_=>rfl)) zB Z ?_))|refine SB ?_|fail))<;>clear zc1 zc2 zc3 zc4 zc5 zc6 zc7 zc8 zc9 zc10 zc11 zc12 zc13 zf1)
        rfl
       ·rw[yBc hv]at hd';subst hd';have hbe:=hb' (λh=>hv h.2);subst hbe;rw[ez];clear sp hb'
        (have zc1:=lf;have zc2:=n1;have zc3:=n2;have zc4:=ko;have zc5:=k0;have zc6:=f0;have zc7:=n3;have zc8:=k1;have zc9:=f1;have zc10:=n4;have zc11:=n5;have zc12:=n6;(repeat' (first|refine bW ?_|((first|apply xE|apply xV)<;>intro hc)|(refine zE ?_;first|(refine yR ?_;refine uO [1000,1001,4] [0,2,4,8,116,119] Z ?_;(conv=>whnf);refine qH tok Z Z ?_)|(refine yM ?_;refine kC tok Z Z Z Z Z Z Z Z Z Z Z (yV _ _ (λ_=>rfl)) zB Z ?_))|refine SB ?_|fail))<;>clear zc1 zc2 zc3 zc4 zc5 zc6 zc7 zc8 zc9 zc10 zc11 zc12)
        rfl
     ·rw[yBc hu]at h2 g5;subst g5;subst h2;have em:∀z,zD yA z= .sl false (z.map yA):=λz=>rfl
      rw[em e2]at sp;have ez:zD yA e2= .sl false (List.take (e2.map yA).length (List.drop 0 (e2.map yA))):=by rw[yCg,yBj];rfl
      cases cm with
      |true=>
       rw[yBd Z]at hd';subst hd';have hbe:=hb' (λh=>by cases h.1);subst hbe;rw[ez];clear sp hb'
       (have zc1:=lf;have zc2:=n1;have zc3:=n2;have zc4:=ko;have zc5:=k0;have zc6:=f0;have zc7:=n3;have zc8:=k1;have zc9:=f1;have zc10:=n4;have zc11:=n5;have zc12:=n6;(repeat' (first|refine bW ?_|((first|apply xE|apply xV)<;>intro hc)|(refine zE ?_;first|(refine yR ?_;refine uO [1000,1001,4] [0,2,4,8,116,119] Z ?_;(conv=>whnf);refine qH tok Z Z ?_)|(refine yM ?_;refine kC tok Z Z Z Z Z Z Z Z Z Z Z (yV _ _ (λ_=>rfl)) zB Z ?_))|refine SB ?_|fail))<;>clear zc1 zc2 zc3 zc4 zc5 zc6 zc7 zc8 zc9 zc10 zc11 zc12)
       rfl
      | false=>
       rw[yBc yBw]at hd';by_cases hv:v=6
       ·rw[yBd hv]at hd';subst hd';have sp:=sp Z hv;clear hb'
        (have zc1:=lf;have zc2:=n1;have zc3:=n2;have zc4:=ko;have zc5:=k0;have zc6:=f0;have zc7:=n3;have zc8:=k1;have zc9:=f1;have zc10:=n4;have zc11:=n5;have zc12:=n6;have zc13:=sp;have zf1:=(⟨⟩:FzD 30 [1000,1001,4] [0,2,4,7,8,12,110,112,114]);(repeat' (first|refine bW ?_|((first|apply xE|apply xV)<;>intro hc)|(refine zE ?_;first|(refine yR ?_;refine uO [1000,1001,4] [0,2,4,8,116,119] Z ?_;(conv=>whnf);refine qH tok Z Z ?_)|(refine yM ?_;refine kC tok Z Z Z Z Z Z Z Z Z Z Z (yV _ _ (λ_=>rfl)) zB Z ?_))|refine SB ?_|fail))<;>clear zc1 zc2 zc3 zc4 zc5 zc6 zc7 zc8 zc9 zc10 zc11 zc12 zc13 zf1)
        rfl
       ·rw[yBc hv]at hd';subst hd';have hbe:=hb' (λh=>hv h.2);subst hbe;rw[ez];clear sp hb'
        (have zc1:=lf;have zc2:=n1;have zc3:=n2;have zc4:=ko;have zc5:=k0;have zc6:=f0;have zc7:=n3;have zc8:=k1;have zc9:=f1;have zc10:=n4;have zc11:=n5;have zc12:=n6;(repeat' (first|refine bW ?_|((first|apply xE|apply xV)<;>intro hc)|(refine zE ?_;first|(refine yR ?_;refine uO [1000,1001,4] [0,2,4,8,116,119] Z ?_;(conv=>whnf);refine qH tok Z Z ?_)|(refine yM ?_;refine kC tok Z Z Z Z Z Z Z Z Z Z Z (yV _ _ (λ_=>rfl)) zB Z ?_))|refine SB ?_|fail))<;>clear zc1 zc2 zc3 zc4 zc5 zc6 zc7 zc8 zc9 zc10 zc11 zc12)
        rfl
   ·rw[<-hW,WF];clear hW;have hlN:=hfl.1;have hml:((f N).1.map uY).length=(f N).1.length:=yBe ..;have lf:=zKv (f N).2;clear hf hfl hle f0 hL hl9 hl10 hl2 hfR ks;generalize f N=p at *;obtain⟨l,d⟩:=p;dsimp only at *;rw[show uY FS= .agg [iA 6,iA 0,iA 0,iA 0,.sl false []]from Z];by_cases hlt:d.a<d.l.length
    ·have h150:¬l.length<150:=λh=>hend ⟨hlt,h⟩
     rw[yBk hlt]at lf;generalize l.map uY=X at*
     (have zc1:=lf;(repeat' (first|refine bW ?_|((first|apply xE|apply xV)<;>intro hc)|(refine zE ?_;first|(refine yR ?_;refine TR 154 Z Z Z ?_;refine qH tok Z Z ?_))|refine SB ?_|fail))<;>clear zc1)
     exact zK [1000,1001] Z Z Z Z
    ·rw[yBm hlt]at lf;generalize l.map uY=X at*
     (have zc1:=lf;(repeat' (first|refine bW ?_|((first|apply xE|apply xV)<;>intro hc)|(refine zE ?_;first|(refine yR ?_;refine TR 154 Z Z Z ?_;refine qH tok Z Z ?_))|refine SB ?_|fail))<;>clear zc1)
     exact zK [1000,1001] Z Z Z Z
end Av
end Go.Proofs.YteajjdidebfcjaaGreat
