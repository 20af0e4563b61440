/- Part 32. -/
import Derived.Test.YteajjdidebfcjaaGreatR31
namespace Go.Proofs.YteajjdidebfcjaaGreat
namespace Av
open Tryz
set_option linter.all false
set_option maxRecDepth 4000
set_option maxHeartbeats 8000000
instance:DecidableEq Wt:=λa b=>decidable_of_iff (a.ag=b.ag/\a.id=b.id/\a.jn=b.jn/\a.si=b.si) (by cases a;cases b;simp)
def BL (w:Wt):List Int:=[w.ag,w.id,w.jn,w.si]
def zBr {a b:Wt} (h:BL a=BL b):a=b:=by
 unfold BL at h;cases a;cases b;simp at h;obtain⟨rfl,rfl,rfl,rfl⟩:=h;rfl
def SW (W:List (Wt×Int)):List (List Int×Int):=W.map λp=>(BL p.1,p.2)
def TK (w:Wt) (v:Int):List (Wt×Int)->List (Wt×Int)
 | []=>[(w,v)]
 |p::r=>if w=p.1 then(w,v)::r else p::TK w v r
theorem LY (w:Wt) (v:Int):∀W,bK (BL w) v (SW W)=SW (TK w v W)
 | []=>rfl
 |p::r=>by
  unfold SW TK bK;rw[yBb];dsimp only;by_cases h:w=p.1
  ·rw[zZ8 h,zZ8 (by rw[h]),yBb]
  ·rw[zZ7 h,zZ7 (λe=>h (zBr e)),yBb];have:=LY w v r;unfold SW at this;rw[this]
theorem zBs {w:Wt} {v:Int}:∀{W:List (Wt×Int)} {p:Wt×Int},p∈TK w v W->p=(w,v)∨p∈W
 | [],p,h=> .inl (by simpa [TK]using h)
 | q::r,p,h=>by
  unfold TK at h;split at h
  ·rcases yBd.1 h with h|h
   ·exact .inl h
   ·exact .inr (yD9 _ h)
  ·rcases yBd.1 h with h|h
   ·exact .inr (by rw[h];simp)
   ·exact(zBs h).imp id λh=>yD9 _ h
def zBt (W:List (Wt×Int)):∀p∈SW W,p.1.length=4:=λp hp=>by
 obtain⟨q,_,rfl⟩:=yA5.1 hp;rfl
def GR:List (Wt×Int)->Wt->Int
 | [],_=>0
 |p::r,w=>if p.1=w then p.2 else GR r w
def GA (W:List (Wt×Int)):Prop:=(W.map (·.1)).Nodup
theorem XO:∀{W:List (Wt×Int)},GA W->∀{q},q∈W->GR W q.1=q.2
 |p::r,h,q,hq=>by
  unfold GA at h;rw[yBb,yD3]at h;unfold GR
  rcases yBd.1 hq with rfl|hq
  ·rw[zZ8 Z]
  ·rw[zZ7 (λe=>h.1 (by rw[e];exact yA5.2 ⟨q,hq,rfl⟩))];exact XO h.2 hq
theorem zFz:∀{W:List (Wt×Int)} {w:Wt},(∀q∈W,q.1≠w)->GR W w=0
 | [],_,_=>rfl
 |p::r,w,h=>by
  unfold GR;rw[zZ7 (h p zU)];exact zFz λq hq=>h q (by simp[hq])
def zS7 (W:List (Wt×Int)) (w:Wt):GR W w=0∨∃q∈W,q.1=w/\GR W w=q.2:=by
 induction W with
 |nil=>exact .inl Z
 |cons p r ih=>
  unfold GR;by_cases h:p.1=w
  ·rw[zZ8 h];exact .inr ⟨p,by simp,h,rfl⟩
  ·rw[zZ7 h];exact ih.imp id λ⟨q,h1,h2⟩=>⟨q,yD9 _ h1,h2⟩
theorem GT (w:Wt) (v:Int):∀W:List (Wt×Int),GA W->GA (TK w v W)/\∀k∈(TK w v W).map (·.1),k=w∨k∈W.map (·.1)
 | [],_=>⟨by simp[GA,TK],λk hk=> .inl (by simpa [TK]using hk)⟩
 | p ::r,h=>by
  have h0:=h;unfold GA at h;rw[yBb,yD3]at h;unfold TK;by_cases e:w=p.1
  ·rw[zZ8 e];refine⟨?_,λk hk=> .inr ?_⟩
   ·unfold GA;rw[yBb,yD3];dsimp only;rw[e];exact h
   ·rw[yBb]at hk⊢;rw[<-e];exact hk
  ·rw[zZ7 e];obtain⟨i1,i2⟩:=GT w v r h.2;refine⟨?_,λk hk=>?_⟩
   ·unfold GA;rw[yBb,yD3];refine⟨λhm=>?_,i1⟩
    rcases i2 _ hm with h1|h1
    ·exact e h1.symm
    ·exact h.1 h1
   ·rw[yBb]at hk⊢
    rcases yBd.1 hk with hk|hk
    ·exact .inr (by rw[hk];simp)
    ·rcases i2 _ hk with h1|h1
     ·exact .inl h1
     ·exact .inr (yD9 _ h1)
def afN (W:List (Wt×Int)) (l:List Wt):List (Wt×Int):=l.foldl (λN w=>TK w (GR W w+1) N) []
def zF0 (W:List (Wt×Int)) (l:List Wt) (w:Wt):afN W (l++[w])=TK w (GR W w+1) (afN W l):=by
 unfold afN;rw[yEq];rfl
def zS8 (W:List (Wt×Int)) (l:List Wt):GA (afN W l)/\∀p∈afN W l,p.1∈l/\p.2=GR W p.1+1:=by
 have key:∀(l:List Wt) (m:List Wt) (N:List (Wt×Int)),GA N->(∀p∈N,p.1∈m/\p.2=GR W p.1+1)->GA (l.foldl (λN w=>TK w (GR W w+1) N) N)/\∀p∈l.foldl (λN w=>TK w (GR W w+1) N) N,p.1∈m++l/\p.2=GR W p.1+1:=by
  intro l
  induction l with
  |nil=>intro m N h1 h2;exact⟨h1,λp hp=>by rw[yBc];exact h2 p hp⟩
  | cons w l ih=>
   intro m N h1 h2
   have:=ih (m++[w]) (TK w (GR W w+1) N) (GT _ _ N h1).1 (λp hp=>by
    rcases zBs hp with rfl|hp
    ·exact⟨by simp,rfl⟩
    ·exact⟨by simp[(h2 p hp).1],(h2 p hp).2⟩)
   rw[yA7]at this;exact this
 have:=key l [] [] (by simp[GA]) (λp hp=>by cases hp);rw[yCo]at this;exact this
def AB (W L:List (Wt×Int)) (w:Wt) (v:Int):Prop:=(v=1∨∃q∈W,q.1=w/\v=q.2+1)/\∀q∈W,q.1=w->q∈L∨v=q.2+1
def zF1 {W:List (Wt×Int)} (h:GA W) {w:Wt} {v:Int} (H:AB W [] w v):v=GR W w+1:=by
 rcases H.1 with h1|⟨q,hq,rfl,h1⟩
 ·by_cases hx:∃q∈W,q.1=w
  ·obtain⟨q,hq,rfl⟩:=hx
   rcases H.2 q hq Z with h2|h2
   ·cases h2
   ·rw[XO h hq];exact h2
  ·rw[zFz (λq hq e=>hx ⟨q,hq,e⟩)];omega
 ·rw[XO h hq];exact h1
def zWy:∀{W:List (Wt×Int)},GA W->∀{a b:Wt×Int},a∈W->b∈W->a.1=b.1->a=b:=λh a b ha hb e=>by
 have h1:=XO h ha;have h2:=XO h hb;rw[e,h2]at h1;exact Prod.ext e h1.symm
def zF2 {W M1 M2:List (Wt×Int)} {q:Wt×Int} {v:Int} (h:GA W) (hq:q∈W):AB W (M1++M2) q.1 (q.2+1):=
 ⟨.inr ⟨q,hq,rfl,rfl⟩,λq' hq' e=> .inr (by rw[zWy h hq' hq e])⟩
def zDw {W M1 M2:List (Wt×Int)} {q:Wt×Int} {w:Wt} {v:Int} (hw:q.1≠w) (H:AB W (M1++q::M2) w v):AB W (M1++M2) w v:=
 ⟨H.1,λq' hq' e=>(H.2 q' hq' e).imp (λhm=>by
  rcases yAw.1 hm with hm|hm
  ·exact yAw.2 (.inl hm)
  ·rcases yBd.1 hm with rfl|hm
   ·exact absurd e hw
   ·exact yAw.2 (.inr hm)) id⟩
def XP (w:Wt) (v:Int) (p:Wt×Int) (r:List (Wt×Int)):TK w v (p::r)=if w=p.1 then(w,v)::r else p::TK w v r:=rfl
theorem zBu (w:Wt) (a b:Int):∀W,TK w a (TK w b W)=TK w a W
 | []=>by simp[TK]
 |p::r=>by
  rw[XP w b,XP w a p r];by_cases e:w=p.1
  ·rw[zZ8 e,zZ8 e,XP,zZ8 Z]
  ·rw[zZ7 e,zZ7 e,XP,zZ7 e,zBu w a b r]
def MJ {L:List (Wt×Int)} {p:List Int×Int} {L1 L2:List (List Int×Int)} (h:SW L=L1++p::L2):∃M1 q M2,L=M1++q::M2/\p=(BL q.1,q.2)/\L1=SW M1/\L2=SW M2:=by
 unfold SW at h;obtain⟨M1,r,e1,e2,e3⟩:=List.map_eq_append_iff.1 h;obtain⟨q,M2,e4,e5,e6⟩:=List.map_eq_cons_iff.1 e3;exact⟨M1,q,M2,by rw[e1,e4],e5.symm,e2.symm,e6.symm⟩
def zBv {L:List (Wt×Int)} (h:SW L=[]):L=[]:=List.map_eq_nil_iff.1 h
def zBw (a b:List (Wt×Int)):SW a++SW b=SW (a++b):=by unfold SW;rw[yAi]
def zY9:KD prog TT 103 4:=⟨⟨_,_,rfl,rfl,rfl,rfl⟩,by kernel_rfl,by kernel_rfl⟩
def zWz:prog.underlying 96=some (.map 103 3):=by kernel_rfl
theorem zF3 {ob:Option Nat} {pm:Obj->Prop} (W:List (Wt×Int)) (hpm:∀o,pm o->fE (SW W) o) (hnd:GA W) (hPW:∀p∈W,0<=p.2/\p.2<=1000000) (l:List Wt) (hl:l.length<=1000):
  zN 46 [.fm ob pm,zD KC l] [] (.fm none (fE (SW (afN W l)))) []:=by
 have hll:=zA KC l;have hk:=zY9;have hM:=zWz;refine eM call46 λF hF=>?_
 (repeat' (first|refine uL ?_|((first|apply xM|apply wA)<;>intro hc)|(refine zE ?_;first|(refine zB1 1061 Z Z λb=>?_))|fail))
 refine zD3 0 Z (λbw ow hw=>?_);have hW:=hpm _ hw;refine yL (l) [1061] [] [0,5,11,12] [13,0,5,11,12] Z (λi pre T U=>⟨(13,iA i)::T,(1061,.obj (b,fE (SW (afN W pre))))::U⟩) ?_;(conv=>whnf);refine⟨by rfl,?_,?_⟩
 ·intro i pre w post hx hi;have hy:=xI KC hx hi;have hlt:=yN hx hi;unfold KC at hy;rw[zF0];generalize afN W pre=N at *;have hN1:=zBt N;have hm:=LY w 1 N;clear hx
  (repeat' (first|refine uL ?_|((first|apply xM|apply wA)<;>intro hc)|(refine zE ?_;first|(first|(refine FA (k:=1061) (l:=BL w) (es:=SW N) tok hk hM Z Z Z Z Z hN1 ?_;rw[hm])|(refine FB 1062 hM Z hW Z Z λbi=>?_)))|fail))
  refine kX (W.length) [1061,1062,7] [7] [0,5,7,11,12,13,20] [0,5,7,11,12,13,20] Z (λzn T U zs=>∃(L:List (Wt×Int)) (v:Int) (cur:Option (List Int×Int)),(zn=L.length/\(∀q∈L,q∈W)/\AB W L w v)/\zs=⟨T,(1061,.obj (b,fE (SW (TK w v N))))::(1062,.obj (bi,KE bw ow cur (SW L)))::U⟩) ?_;(conv=>whnf);refine⟨?_,?_⟩
  ·exact⟨W,1,none,⟨rfl,λ_ h=>h,.inl Z,λq hq _=> .inl hq⟩,rfl⟩
  rintro zn st ⟨L,v,cur,⟨rfl,hL,hV⟩,rfl⟩;have hN2:=zBt (TK w v N)
  (repeat' (first|refine uL ?_|((first|apply xM|apply wA)<;>intro hc)|(refine zE ?_;first|(refine MK (s:=0) (k:=1062) Z Z hW Z Z (λh0=>?_) (λp L1 L2 hp=>?_)))|fail))
  ·obtain rfl:=zBv h0;rw[<-zF1 hnd hV];rfl
  ·obtain⟨M1,q,M2,rfl,rfl,rfl,rfl⟩:=MJ hp;rw[zBw];have hqW:q∈W:=hL q zU;have hqb:=hPW q hqW;have hmm:∀x∈M1++M2,x∈W:=λx hx=>hL x zSq
   by_cases hqw:q.1=w
   ·have hbe:(BL q.1==BL w)=true:=by rw[hqw,yF4]
    have hV':AB W (M1++M2) w (q.2+1):=by rw[<-hqw];exact zF2 (v:=v) hnd hqW
    have hm2:=LY w (q.2+1) (TK w v N);rw[zBu]at hm2
    (repeat' (first|refine uL ?_|((first|apply xM|apply wA)<;>intro hc)|(refine zE ?_;first|(first|(refine QD (s:=0) (k:=1062) Z Z hW Z Z ?_)|(refine wL ?_;refine wG (zDq (ms:=BL q.1) (ns:=BL w) (v:=true) tok Z Z Z Z Z Z Z SU SU SU (.inl ⟨rfl,hbe.symm⟩)) Z ?_)|(refine FA (k:=1061) (l:=BL w) (v:=q.2+1) (es:=SW (TK w v N)) tok hk hM Z Z Z Z Z hN2 ?_;rw[hm2])))|fail))
    exact⟨(M1++M2).length,by simp,M1++M2,q.2+1,some _,⟨rfl,hmm,hV'⟩,rfl⟩
   ·have hbe:(BL q.1==BL w)=false:=by
     rw[yBg];exact λe=>hqw (zBr e)
    have hV':AB W (M1++M2) w v:=zDw hqw hV
    (repeat' (first|refine uL ?_|((first|apply xM|apply wA)<;>intro hc)|(refine zE ?_;first|(first|(refine QD (s:=0) (k:=1062) Z Z hW Z Z ?_)|(refine wL ?_;refine wG (zDq (ms:=BL q.1) (ns:=BL w) (v:=false) tok Z Z Z Z Z Z Z SU SU SU (.inl ⟨rfl,hbe.symm⟩)) Z ?_)))|fail))
    exact⟨(M1++M2).length,by simp,M1++M2,v,some _,⟨rfl,hmm,hV'⟩,rfl⟩
 ·refine FC (st':=⟨[(5,.fm none (fE (SW (afN W l)))),(13,iA (l.length:Int)),(12,iA ((l.map KC).length:Int))],[]⟩) 5 1061 [] [13,12] Z Z Z Z Z Z ?_;refine WW ?_;exact zJ
theorem LZ {j:Jn} (J:JV j):∀n,n<=j.ph.length->0<=JD j.ph n/\JD j.ph n<=180
 |0,_=>⟨yB6 _,by show(0:Int)<=180;omega⟩
 |n+1,h=>by
  have ih:=LZ J n zB;have hti:=J.ti n zB;unfold yM at hti;unfold JD UL;omega
def zF4 (j:Jn) (J:JV j):zN 74 [wJ j] [] (iA (ZP j)) []:=by
 have hl:=zA wS j.ph;have hn:=J.n;have hst:=J.st;have hbd:=LZ J;unfold ZP;refine eM call74 λF hF=>?_
 refine WW ?_;refine zO (j.ph.length) [1] [1] [1,7,8] [3,9,1,7,8] Z (λi T U=>⟨(3,iA (JD j.ph i))::(9,iA i)::T,U⟩) ?_;(conv=>whnf);refine⟨by rfl,?_,?_⟩
 ·intro i hi;have hy:=zM wS j.ph i hi;have hti:=J.ti i hi;have hln:UL (yM j i)<=60/\1<=UL (yM j i):=by unfold UL;omega
  have cn:=JP (yM j i) ⟨zB,zB,zB,zB⟩;have e:JD j.ph (i+1)=max (JD j.ph i) (UL (yM j i)+(yM j i).yel+(yM j i).red):=rfl;rw[e];have h1:=hbd i zB
  change (j.ph.map wS)[i]? =some (wS (yM j i))at hy
  clear hbd e;generalize JD j.ph i=g at *;generalize UL (yM j i)=n at *;generalize yM j i=q at *;refine zV cn ?_;rfl
 ·have h1:=hbd j.ph.length (yAb _);generalize JD j.ph j.ph.length=g at *;refine WW ?_;exact zJ
def fO (c:Cf):Nat->Int
 |0=>0
 |i+1=>max (fO c i) (VW c i)
theorem KA (c:Cf) {k:Nat}:∀{n},k<n->VW c k<=fO c n
 |n+1,h=>by
  unfold fO;by_cases e:k=n
  ·subst e;omega
  ·have:=KA c (k:=k) (n:=n) zB;omega
theorem zF5 {l:List Ag} (h:∀a∈l,a.req<=4):∀i,i<=l.length->RA l i<=4*i
 |0,_=>by simp[RA]
 |i+1,hi=>by
  have:=zF5 h i zB;have:=h _ (zP l i zB);unfold RA;omega
def XQ {c:Cf} (h:VT c) {k:Nat} (hk:k<c.js.length):1<=VW c k/\VW c k<=1000000:=by
 have J:=h.jv _ (zP c.js k hk);have ht:=LZ J _ (yAb _);have hst:=J.st;have hn:=J.n;have h1:=h.h;have h2:=h.l;have h3:=h.p;have h4:=h.cp;have hR:=KB (l:=c.ags) (λa ha=>by have:=(h.av a ha).q;omega) _ (yAb _);have m1:0<=c.cap*c.per/\c.cap*c.per<=100*600:=⟨yEc zB zB,yEu zB zB zB zB⟩;have eT:ZP (c.js.getD k default)=(c.js.getD k default).st+JD (c.js.getD k default).ph (c.js.getD k default).ph.length:=rfl;have m2:2*1<=(min (RA c.ags c.ags.length) ((c.js.getD k default).ph.length)+2)*(ZP (c.js.getD k default)+c.hold+2):=yEu zB zB zB zB;have m3:(min (RA c.ags c.ags.length) ((c.js.getD k default).ph.length)+2)*(ZP (c.js.getD k default)+c.hold+2)<=10*400:=yEu zB zB zB zB;unfold VW;omega
def PrB (y:Cy) (W:List (Wt×Int)):Prop:=∀p∈W,∃m:Nat,p.2=(m:Int)/\WtI y p.1 m
def AC {y:Cy} (h:XS y) {W:List (Wt×Int)} (H:PrB y W):∀p∈W,(0<=p.2/\p.2<=1000000)/\p.2<fO y.c y.c.js.length:=λp hp=>by
 obtain⟨m,e,I⟩:=H p hp;obtain⟨k,hk,hb⟩:=I.bound h;have h1:=XQ h.v hk;have h2:=KA y.c hk;omega
def AfR (W:List (Wt×Int)) (l:List Wt) (W':List (Wt×Int)):Prop:=∀p∈W',p.1∈l/\(p.2=1∨∃q∈W,q.1=p.1/\p.2=q.2+1)
def zF6 {y:Cy} (h:XS y) (H0:AK y) {ins:List In} {R:Nat->DR} (hR:TkR y ins R) {W W':List (Wt×Int)} (H:PrB y W) (A:AfR W (wtL (qI y R)) W'):PrB (qI y R) W':=λp hp=>by
 obtain⟨a1,a2⟩:=A p hp
 rcases a2 with a2|⟨q,hq,e1,e2⟩
 ·exact⟨1,a2,WtI.first h hR a1⟩
 ·obtain⟨m,e3,I⟩:=H q hq;rw[e1]at I;exact⟨m+1,zB,I.next h H0 hR a1⟩
def zF7 {y y':Cy} (hc:y'.c=y.c) (hn:y'.now=y.now) (hg:y'.sg=y.sg) (hv:y'.sv=y.sv) (hd:y'.ds.map GB=y.ds.map GB) {W:List (Wt×Int)} (H:PrB y W):PrB y' W:=λp hp=>by
 obtain⟨m,e,I⟩:=H p hp;exact⟨m,e,I.same hc hn hg hv hd⟩
theorem AK.same {y y':Cy} (W:AK y) (hc:y'.c=y.c) (hg:y'.sg=y.sg) (hv:y'.sv=y.sv) (hd:y'.ds.map GB=y.ds.map GB):AK y':=by
 refine⟨by rw[hc,hg,hv];exact W.w,λa ha=>?_⟩;have hl:=yA6 List.length hd;rw[zZ9,zZ9]at hl;have:=yA6 (λl=>l[a]?) hd;simp only[yAa,yAn ha,yAn (show a<y.ds.length by omega),Option.map_some,yBj]at this;have e:=yA6 Prod.fst this;have w:=W.n a zB;rw[yAg,yAn zB]at w;rw[yAg,yAn ha];exact e.trans w
def zS9 {b:VZ} (h:AN b) (W:AK b.y) (hn:b.y.now<1000000000) {e:Ev} (he:FU e):AK (XM b e).b.y:=by
 have D:=QH h hn he
 cases hf:(XM b e).fl with
 |false=>
  obtain⟨_,d2,d3,_,d5⟩:=D.st h he hf;exact W.same D.c d2 d3 d5
 |true=>
  obtain⟨y',Td,M,er,_⟩:=D.t6 (D.f6 hf);obtain⟨hR,e1,_⟩:=M.tk;rw[er];dsimp only;rw[e1];exact W.tick h.y hR
def zNe (c:Cf):AK (cA c).y:=by
 refine⟨λk hk=>?_,λa ha=>?_⟩
 ·have hk:k<c.js.length:=hk
  have e1:(cA c).y.sg.getD k default=jI (c.js.getD k default):=by
   show(c.js.map jI).getD k default=_
   simp[List.getD,hk]
  have e2:(cA c).y.sv.getD k default=SD (c.js.getD k default):=by
   show(c.js.map SD).getD k default=_
   simp[List.getD,hk]
  rw[e1,e2];exact⟨by show(-1:Int)<= -1;omega,by show(-1:Int)<_;omega,λh=>(by cases h),λ_ h0=>(by exfalso;revert h0;show¬(0:Int)<= -1;omega)⟩
 ·have ha':a<(NA c c.ags.length).length:=ha
  show((NA c c.ags.length).getD a default).rg.num=_
  unfold NA at ha'⊢;rw[zZ9,yBp]at ha';rw[yAg,yAa,yA4 ha'];rfl
def zNf {y:Cy} (h:XS y):(wtL y).length<=48:=by
 have hd4:y.ds.length<=4:=by have:=h.dl;have:=h.v.a;omega
 have hD:∀d'∈y.ds,(wtD y d').length<=12:=λd' hd'=>by
  have h1:=kP (AG y d') 3 d'.rq (λr hr=>by
   have h2:=kP (BO y d' r) 1 r.legs (λg _=>SY y d' r g);have h3:=(h.di d' hd').v.lg3 hr;unfold AG
   omega)
  have:=(h.di d' hd').v.n4;unfold wtD;omega
 have:=kP (wtD y) 12 y.ds hD;unfold wtL;omega
def BM (x:Int) (L:List (Wt×Int)):Int:=L.foldl (λa p=>max a p.2) x
theorem zBx (x a:Int):∀L,BM (max x a) L=max (BM x L) a
 | []=>rfl
 |p::r=>by
  show BM (max (max x a) p.2) r=max (BM (max x p.2) r) a
  rw[<-zBx (max x p.2) a r]
  congr 1
  omega
def zNg (x:Int) (M1:List (Wt×Int)) (q:Wt×Int) (M2:List (Wt×Int)):BM x (M1++q::M2)=BM (max x q.2) (M1++M2):=by
 have e:∀y,BM y (M1++M2)=BM (BM y M1) M2:=λy=>by unfold BM;rw[yEq]
 rw[e,zBx];unfold BM;rw[yEq];rfl
theorem zF8 {B:Int}:∀{L:List (Wt×Int)} {x:Int},0<=x->x<B->(∀p∈L,p.2<B)->0<=BM x L/\BM x L<B
 | [],x,h0,h1,_=>⟨h0,h1⟩
 |p::r,x,h0,h1,h=>by
  have:=h p zU;exact zF8 (L:=r) (x:=max x p.2) zB zB λq hq=>h q (by simp[hq])
abbrev WX:=List (Wt×Int)×Int
noncomputable def stX (b:VZ) (s:WX) (e:Ev):WX:=if(XM b e).fl=true then(afN s.1 (wtL (XM b e).b.y),BM s.2 (afN s.1 (wtL (XM b e).b.y)))else s
noncomputable def rnW:VZ->WX->List Ev->WX
 |_,s,[]=>s
 |b,s,e::l=>rnW (XM b e).b (stX b s e) l
def zNh (b:VZ) (s:WX) (l m:List Ev):rnW b s (l++m)=rnW (aN b l) (rnW b s l) m:=by
 induction l generalizing b s with
 |nil=>rfl
 |cons e l ih=>exact ih _ _
structure WxI (y:Cy) (s:WX):Prop where
 w:AK y
 p:PrB y s.1
 d:GA s.1
 x:0<=s.2/\s.2<fO y.c y.c.js.length
theorem WxI.step {b:VZ} (h:AN b) {s:WX} (H:WxI b.y s) (hn:b.y.now<1000000000) {e:Ev} (he:FU e):WxI (XM b e).b.y (stX b s e):=by
 have D:=QH h hn he;have hw:=zS9 h H.w hn he;unfold stX
 cases hf:(XM b e).fl with
 |false=>
  rw[zZ7 yAs];obtain⟨d1,d2,d3,_,d5⟩:=D.st h he hf;exact⟨hw,zF7 D.c d1 d2 d3 d5 H.p,H.d,by rw[D.c];exact H.x⟩
 | true=>
  rw[zZ8 Z];obtain⟨y',Td,M,er,_⟩:=D.t6 (D.f6 hf);obtain⟨hR,e1,_⟩:=M.tk;have ey:(XM b e).b.y=qI b.y (dtR b.y (cC b.ss)):=by rw[er];exact e1
  obtain⟨n1,n2⟩:=zS8 s.1 (wtL (XM b e).b.y)
  have hp:PrB (XM b e).b.y (afN s.1 (wtL (XM b e).b.y)):=by
   rw[ey]at n2⊢;refine zF6 h.y H.w hR H.p λp hp=>?_
   obtain⟨a1,a2⟩:=n2 p hp;refine⟨a1,?_⟩
   rcases zS7 s.1 p.1 with h1|⟨q,h1,h2,h3⟩
   ·left;omega
   ·exact .inr ⟨q,h1,h2,zB⟩
  have hB:=AC D.i.y hp;refine⟨hw,hp,n1,zF8 H.x.1 ?_ λp hp=>(hB p hp).2⟩;rw[D.c];exact H.x.2
theorem zF9:∀(l:List Ev) {b:VZ} {s:WX},AN b->WxI b.y s->(∀e∈l,FU e)->b.y.now+(l.length:Int)<1000000000->WxI (aN b l).y (rnW b s l)
 | [],_,_,_,H,_,_=>H
 |e::l,b,s,h,H,he,hn=>by
  rw[yAl]at hn;have D:=QH h zB (he e zU);have Dn:=D.n;exact zF9 l D.i (H.step h zB (he e zU)) (λx hx=>he x MD) zB
def zNi {c:Cf} (h:VT c):fO c c.js.length<=1000000:=by
 have key:∀i,i<=c.js.length->fO c i<=1000000:=λi=>by
  induction i with
  |zero=>intro _;simp[fO]
  |succ i ih=>
   intro hi;have h1:=ih zB;have h2:=XQ h (k:=i) zB;unfold fO;omega
 exact key _ (yAb _)
def zGa {c:Cf} (hc:VT c):0<fO c c.js.length:=by
 have hj:=hc.j;have h1:=KA c (k:=0) (n:=c.js.length) zB;have h2:=XQ hc (k:=0) zB;omega
def zBy {c:Cf} (hc:VT c):WxI (cA c).y ([],0):=⟨zNe c,λp hp=>(by cases hp),by simp[GA],yB6 _,zGa hc⟩
theorem zGb (c:Cf) (hc:VT c) (l:List Ev) (hl:l.length<=1000000) (he:∀e∈l,FU e):zN 16 [vG c,zD gD l] [] (iA (rnW (cA c) ([],0) (l.take 400)).2) []:=by
 have k1:=zNu c hc;have hb:=zGt c hc;have hX:=zBy hc;have hll:=zA gD l;have h0:(cA c).y.now=0:=rfl;have ht4:(l.take 400).length<=400:=by rw[yA3];omega
 have hm4:∀e∈l.take 400,FU e:=λe h=>he e (yCc h)
 unfold cB UA at k1;refine eM call16 λF hF=>?_
 (have zc1:=k1;(repeat' (first|refine uL ?_|((first|apply xM|apply wA)<;>intro hc)|(refine zE ?_;first|(refine zB1 1061 Z Z λb=>?_))|fail))<;>clear zc1)
 have tk4:l.take (min ((l.map gD).length:Int) 400).toNat=l.take 400:=by
  rw[zZ9];by_cases h:l.length<=400
  ·rw[yAj zB,yAj zB]
  ·congr 1
   omega
 rw[tk4];have hl4:=zA gD (l.take 400);generalize l.take 400=l4 at *;refine FC 6 1061 [5] [5,6,7,22,23,24] Z Z Z Z Z Z ?_;refine qW (l4) [5] [] [5,22,23] [6,7,24,5,22,23] Z (λi pre T U zs=>∃(ob:Option Nat) (pm:Obj->Prop),(∀o,pm o->fE (SW (rnW (cA c) ([],0) pre).1) o)/\zs=⟨(6,.fm ob pm)::(7,iA (rnW (cA c) ([],0) pre).2)::(24,iA i)::T,(5,.box [zD wJ (aN (cA c) pre).y.c.js,zD wK (aN (cA c) pre).y.c.ags,iA (aN (cA c) pre).y.c.per,iA (aN (cA c) pre).y.c.cap,iA (aN (cA c) pre).y.c.hold,iA (aN (cA c) pre).y.c.lock,bA false,iA (aN (cA c) pre).y.now,zD zI (aN (cA c) pre).y.ds,zD wX (aN (cA c) pre).y.sg,zD wU (aN (cA c) pre).y.sv,zD iA (aN (cA c) pre).y.st,zD vO (aN (cA c) pre).y.vw,zD jE (aN (cA c) pre).ss])::U⟩) ?_;(conv=>whnf);refine⟨?_,?_,?_⟩
 ·exact⟨none,_,λ_ h=>h,rfl⟩
 ·rintro i pre x post st hx hi ⟨ob,pm,hpm,rfl⟩;have hy:=xI gD hx hi;have hlt:=yN hx hi;have hpm4:∀e∈pre,FU e:=λe h=>hm4 e (by rw[hx];simp[h])
  have hpl:pre.length<=l4.length:=by rw[hx];simp
  have hxe:=hm4 x (by rw[hx];simp);obtain⟨p1,p2,p3,p4,p5⟩:=zG2 pre hb hpm4 (by rw[h0];omega);have D:=QH p1 zB hxe;have kd:=D.k;have e1:aN (cA c) (pre++[x])=(XM (aN (cA c) pre) x).b:=zNw _ _ _;have e2:rnW (cA c) ([],0) (pre++[x])=stX (aN (cA c) pre) (rnW (cA c) ([],0) pre) x:=zNh _ _ _ _;have H:=zF9 pre hb hX hpm4 (by rw[h0];omega);have H':=H.step p1 zB hxe;have hB:=AC p1.y H.p;have hB':=AC D.i.y H'.p;have cw:=zDz _ D.i.y;unfold uC bP at cw;rw[D.i.y.rf]at cw;have hwl:=zNf D.i.y;have hl0:fO (XM (aN (cA c) pre) x).b.y.c (XM (aN (cA c) pre) x).b.y.c.js.length<=1000000:=zNi D.i.y.v;have hx0:=H'.x;have hxx:=H.x;have hl1:=hl0;rw[D.c]at hl0;have ca:=zF3 (ob:=ob) (pm:=pm) (rnW (cA c) ([],0) pre).1 hpm H.d (λp hp=>(hB p hp).1) (wtL (XM (aN (cA c) pre) x).b.y) zB;rw[e1,e2];unfold stX at hx0 hB'⊢;clear D e1 e2 hx hpm4 H H' hB;unfold cB UA gD sdA at kd;unfold gD at hy;generalize rnW (cA c) ([],0) pre=s0 at *;generalize XM (aN (cA c) pre) x=r at *;generalize aN (cA c) pre=b0 at *;obtain⟨W0,x0⟩:=s0;obtain⟨rb,S,f,fl⟩:=r;dsimp only at *;cases fl
  ·rw[zZ7 yAs];refine zV kd ?_;exact⟨ob,pm,hpm,rfl⟩
  ·rw[zZ8 Z]at hx0 hB'⊢;have hM:=zWz;generalize afN W0 (wtL rb.y)=N at *;refine yR (vH kd cw) ?_;refine zE ?_;refine xT ?_;refine vS 46 ?_;refine wG (zH ca Z Z Z Z Z) Z ?_;refine zNt (ob:=none) 42 Z (λbw ow hw=>?_)
   (repeat' (first|refine uL ?_|((first|apply xM|apply wA)<;>intro hc)|(refine zE ?_;first|(refine FB 1062 hM Z hw Z Z λbi=>?_))|fail))
   refine kX (N.length) [1062,5] [5] [5,6,22,23,24,44] [7,5,6,22,23,24,44] Z (λzn T U zs=>∃(L:List (Wt×Int)) (v:Int) (cur:Option (List Int×Int)),(zn=L.length/\(∀q∈L,q∈N)/\(0<=v/\v<1000000)/\BM v L=BM x0 N)/\zs=⟨(7,iA v)::T,(1062,.obj (bi,KE bw ow cur (SW L)))::U⟩) ?_;(conv=>whnf);refine⟨?_,?_⟩
   ·exact⟨N,x0,none,⟨rfl,λ_ h=>h,zB,rfl⟩,rfl⟩
   rintro zn st ⟨L,v,cur,⟨rfl,hL,hV,hmx⟩,rfl⟩
   (repeat' (first|refine uL ?_|((first|apply xM|apply wA)<;>intro hc)|(refine zE ?_;first|(refine MK (s:=6) (k:=1062) Z Z hw Z Z (λh0=>?_) (λp L1 L2 hp=>?_)))|fail))
   ·obtain rfl:=zBv h0;rw[<-hmx];exact⟨some bw,_,λo h=>by rw[h];exact hw,rfl⟩
   ·obtain⟨M1,q,M2,rfl,rfl,rfl,rfl⟩:=MJ hp;rw[zBw];have hqb:=hB' q (hL q zU);have hmm:∀x∈M1++M2,x∈N:=λx hx=>hL x zSq
    rw[zNg]at hmx
    (repeat' (first|refine uL ?_|((first|apply xM|apply wA)<;>intro hc)|(refine zE ?_;first|(refine QD (s:=6) (k:=1062) Z Z hw Z Z ?_))|fail))
    exact⟨(M1++M2).length,by simp,M1++M2,max v q.2,some _,⟨rfl,hmm,zB,hmx⟩,rfl⟩
 ·rintro st ⟨ob,pm,hp,rfl⟩;refine WW ?_;exact zJ
def zGc (c:Cf) (h:VT c) (k:Nat) (hk:k<c.js.length):zN 40 [vG c,iA (k:Int)] [] (iA (VW c k)) []:=by
 have hjl:=zA wJ c.js;have hal:=zA wK c.ags;have J:=h.jv _ (zP c.js k hk);have tc:=zF4 _ J;have hy:=zM wJ c.js k hk;have ht:=LZ J _ (yAb _);have hst:=J.st;have hn:=J.n;have h1:=h.h;have h2:=h.l;have h3:=h.p;have h4:=h.cp;have h5:=h.j;have h6:=h.a;have hR0:=KB (l:=c.ags) (λa ha=>by have:=(h.av a ha).q;omega);have hR1:=zF5 (l:=c.ags) (λa ha=>(h.av a ha).q.2);have hR2:=hR0 _ (yAb _);have hR3:=hR1 _ (yAb _);have hQ:=λa ha=>(h.av a ha).q
 have m1:0<=c.cap*c.per/\c.cap*c.per<=100*600:=⟨yEc zB zB,yEu zB zB zB zB⟩;have eT:ZP (c.js.getD k default)=(c.js.getD k default).st+JD (c.js.getD k default).ph (c.js.getD k default).ph.length:=rfl;have m2:2*1<=(min (RA c.ags c.ags.length) ((c.js.getD k default).ph.length)+2)*(ZP (c.js.getD k default)+c.hold+2):=yEu zB zB zB zB;have m3:(min (RA c.ags c.ags.length) ((c.js.getD k default).ph.length)+2)*(ZP (c.js.getD k default)+c.hold+2)<=10*400:=yEu zB zB zB zB;have e:VW c k=c.lock+c.cap*c.per+(min (RA c.ags c.ags.length) ((c.js.getD k default).ph.length)+2)*(ZP (c.js.getD k default)+c.hold+2):=rfl;rw[e];have hT:0<=ZP (c.js.getD k default)/\ZP (c.js.getD k default)+c.hold+2<=400:=by omega
 clear e J eT h;generalize c.js.getD k default=jn at *;generalize JD jn.ph jn.ph.length=tn at *;generalize ZP jn=tr at *;have hpl:=zA wS jn.ph;unfold vG;unfold wJ at hy tc;refine eM call40 λF hF=>?_
 refine WW ?_;refine yL (c.ags) [2,5] [2,5] [2,5,25,26] [6,27,2,5,25,26] Z (λi pre T U=>⟨(6,iA (RA c.ags i))::(27,iA i)::T,U⟩) ?_;(conv=>whnf);refine⟨by rfl,?_,?_⟩
 ·intro i pre a post hx hi;have hya:=xI wK hx hi;have hlt:=yN hx hi;have hq:=hQ a (wR hx);have b0:=hR0 i zB;have b1:=hR1 i zB
  have ea:RA c.ags (i+1)=RA c.ags i+a.req:=by
   show RA c.ags i+(c.ags.getD i default).req=_
   rw[hx,<-hi];simp[List.getD]
  rw[ea];clear ea hx hR0 hR1 hQ m2 m3 hR2 hR3;unfold wK at hya;generalize RA c.ags i=s at *;refine WW ?_;rfl
 ·generalize RA c.ags c.ags.length=R at *;rw[Int.min_comm,<-zZ9 (f:=wS)]at m2 m3⊢;refine zV tc ?_;exact zJ
def zBz (c:Cf) (h:VT c):zN 17 [vG c] [] (iA (fO c c.js.length)) []:=by
 have hjl:=zA wJ c.js;have hc:=zGc c h;have h5:=h.j
 have hb:∀i,i<=c.js.length->0<=fO c i/\fO c i<=1000000:=λi=>by
  induction i with
  |zero=>intro _;simp[fO]
  |succ i ih=>
   intro hi;have h1:=ih zB;have h2:=XQ h (k:=i) zB;unfold fO;omega
 have hbb:=λk hk=>XQ h (k:=k) hk
 unfold vG at *;refine eM call17 λF hF=>?_
 refine WW ?_;refine zO (c.js.length) [1] [1] [1,7] [3,8,1,7] Z (λi T U=>⟨(3,iA (fO c i))::(8,iA i)::T,U⟩) ?_;(conv=>whnf);refine⟨by rfl,?_,?_⟩
 ·intro i hi;have k1:=hc i hi;have b1:=hb i zB;have b2:=hbb i hi;have e:fO c (i+1)=max (fO c i) (VW c i):=rfl;rw[e];clear hc hb hbb e;generalize fO c i=x at *;generalize VW c i=z at *;refine zV k1 ?_;rfl
 ·(refine WW ?_)
  exact zJ
def cfO (g:Cf):AV:= .agg [zD wJ g.js,.ref 1002 0 (g.ags.map wK).length,iA g.per,iA g.cap,iA g.hold,iA g.lock]
theorem AD (d:Dk) (rights:Int):zN 12 [.ptr 1000 0 0,iA rights] [(1000,NF d)] (cfO (LA d rights)) [(1000,NF (cfD d rights)),(1002,.arr 8 ((LA d rights).ags.map wK) false)]:=by
 have hn:=xZ (ad4 d) 2 zB;have hm:=xZ (cfJ d).2 3 zB;have en:1+nx (ad4 d) 2=(cfN d:Int):=(yEh zB).symm;have em:1+nx (cfJ d).2 3=(cfM d:Int):=(yEh zB).symm;have ej:cfJ d=ND (ad (ad4 d)) (cfN d):=rfl;have eg:cfG d rights=YP (ad (cfJ d).2) rights (cfM d):=rfl;have ef:LA d rights=⟨(cfJ d).1,(cfG d rights).1,1+nx d (4-1+1),nx (ad d) 4,1+nx (ad (ad d)) (3-1+1),nx (ad (ad (ad d))) 5⟩:=rfl;have ed:cfD d rights=(cfG d rights).2:=rfl;rw[ef,ed];unfold ad4 at *;generalize cfJ d=jj at *;generalize cfG d rights=gg at *;generalize cfN d=N at *;generalize cfM d=M at *;have jc:=λi=>zAh (ND (ad (ad (ad (ad (ad d))))) i).2
 refine eM call12 λF hF=>?_
 (repeat' (first|refine cX ?_|refine xM (λhc=>?_) λhc=>?_|(refine zE ?_;refine xT ?_;(first|(refine vS 41 ?_;first|refine wG (zH (kV _ _ _ zB zB zB) Z Z Z Z Z) Z ?_|refine uS (zH (kV _ _ _ zB zB zB) Z Z Z Z Z) Z Z Z ?_|refine ZU (zH (kV _ _ _ zB zB zB) Z Z Z Z Z) Z Z Z ?_)|(refine vS 15 ?_;first|refine wG (zH (wO _ _ zB zB) Z Z Z Z Z) Z ?_|refine uS (zH (wO _ _ zB zB) Z Z Z Z Z) Z Z Z ?_|refine ZU (zH (wO _ _ zB zB) Z Z Z Z Z) Z Z Z ?_)))|fail))
 generalize nx d (4-1+1)=c1 at *;generalize nx (ad d) 4=c2 at *;generalize nx (ad (ad d)) (3-1+1)=c3 at *;generalize nx (ad (ad (ad d))) 5=c4 at *;generalize nx (ad (ad (ad (ad d)))) 2=n0 at *;generalize ad (ad (ad (ad (ad d))))=d5 at *;refine uF 5 0 1001 3 Z Z Z Z Z ?_
 refine wT (λn st=>∃i:Nat,n+i=N/\st=⟨[(0,.ptr 1000 0 0),(1,iA rights),(4,.ptr 4 0 0),(5,.ptr 5 0 0),(6,iA (1+n0-i))],
   [(1000,NF (ND d5 i).2),(4,.box [.s (.slice none 0 0),.s (.slice none 0 0),iA 0,iA 0,iA 0,iA 0]),(5,.box [.ref 1001 0 ((ND d5 i).1.map wJ).length,.s (.slice none 0 0),iA (1+c1),iA c2,iA (1+c3),iA c4]),(1001,.arr 3 ((ND d5 i).1.map wJ) true)]⟩)
  N [1000,4,5,1001] [0,1,4,5,6] Z ⟨0,rfl,by rw[show 1+n0-(0:Nat)=1+n0 by omega];rfl⟩ ?_
 rintro n st ⟨i,hi,rfl⟩;by_cases hlt:i<N
 ·have hm2:(ND d5 (i+1)).1.map wJ=(ND d5 i).1.map wJ++[wJ (jnF (ND d5 i).2)]:=yAi;have hd2:(ND d5 (i+1)).2=jnD (ND d5 i).2:=rfl;have c:=jc i;have hle:=RM d5 i;generalize hq':ND d5 (i+1)=q' at hm2 hd2;generalize ND d5 i=q at *;obtain⟨ql,qd⟩:=q;dsimp only at hm2 hd2 hle c⊢;generalize jnF qd=jf at *;generalize jnD qd=jd at*
  (repeat' (first|refine cX ?_|refine xM (λhc=>?_) λhc=>?_|(refine zE ?_;refine xT ?_;(first|(refine vS 42 ?_;first|refine wG (zH (c) Z Z Z Z Z) Z ?_|refine uS (zH (c) Z Z Z Z Z) Z Z Z ?_|refine ZU (zH (c) Z Z Z Z Z) Z Z Z ?_)))|fail))
  exact⟨n-1,zB,i+1,zB,by rw[hq',hm2,hd2,show 1+n0-((i+1:Nat):Int)=1+n0-i-1 by omega];rfl⟩
 obtain rfl:i=N:=by omega
 have hjl:jj.1.length=i:=by rw[ej];exact RM _ _
 rw[<-ej];clear ej jc ef ed;obtain⟨js,dj⟩:=jj;dsimp only at *;have hlp:(js.map wJ).length=js.length:=by simp
 have hal:=eV (ad dj) rights M;have ac:=λk (hk:k<M)=>zLc (YP (ad dj) rights k).2 k rights zB zB
 rw[<-eg]at hal
 (repeat' (first|refine cX ?_|refine xM (λhc=>?_) λhc=>?_|(refine zE ?_;refine xT ?_;(first|(refine vS 15 ?_;first|refine wG (zH (wO _ _ zB zB) Z Z Z Z Z) Z ?_|refine uS (zH (wO _ _ zB zB) Z Z Z Z Z) Z Z Z ?_|refine ZU (zH (wO _ _ zB zB) Z Z Z Z Z) Z Z Z ?_)))|fail))
 generalize nx dj 3=n3 at *;generalize ad dj=dk at*
 refine uZ (st':=⟨[(0,.ptr 1000 0 0),(1,iA rights),(4,.ptr 4 0 0),(5,.ptr 5 0 0),(33,iA (1+n3)),(34,iA 0)],
   [(1000,NF dk),(4,.box [.s (.slice none 0 0),.s (.slice none 0 0),iA 0,iA 0,iA 0,iA 0]),(5,.box [zD wJ js,.s (.slice none 0 0),iA (1+c1),iA c2,iA (1+c3),iA c4])]⟩) [1000,4,5] [0,1,4,5,33,34] Z (by
  have e1:zD wJ js= .sl false (List.take (js.map wJ).length (List.drop 0 (js.map wJ))):=by
   rw[yA9,yAf];rfl
  rw[e1]
  rfl) ?_
 refine uF 5 1 1002 8 Z Z Z Z Z ?_
 refine wT (λn st=>∃k:Nat,n+k=M/\st=⟨[(0,.ptr 1000 0 0),(1,iA rights),(4,.ptr 4 0 0),(5,.ptr 5 0 0),(33,iA (1+n3)),(34,iA k)],
   [(1000,NF (YP dk rights k).2),(4,.box [.s (.slice none 0 0),.s (.slice none 0 0),iA 0,iA 0,iA 0,iA 0]),(5,.box [zD wJ js,.ref 1002 0 ((YP dk rights k).1.map wK).length,iA (1+c1),iA c2,iA (1+c3),iA c4]),(1002,.arr 8 ((YP dk rights k).1.map wK) true)]⟩)
  M [1000,4,5,1002] [0,1,4,5,33,34] Z ⟨0,rfl,rfl⟩ ?_
 clear n hi hlt;rintro n st ⟨k,hk,rfl⟩;by_cases hlt:k<M
 ·have hm2:(YP dk rights (k+1)).1.map wK=(YP dk rights k).1.map wK++[wK (agF (YP dk rights k).2 k rights)]:=by rw[zJ8];exact yAi
  have hd2:(YP dk rights (k+1)).2=ad (ad7 (YP dk rights k).2):=zU1 dk rights k;have c:=ac k hlt;have hle:=eV dk rights k;clear ac;generalize hq':YP dk rights (k+1)=q' at hm2 hd2;generalize YP dk rights k=q at *;obtain⟨ql,qd⟩:=q;dsimp only at hm2 hd2 hle c⊢;generalize agF qd k rights=jf at *;generalize ad (ad7 qd)=jd at*
  (repeat' (first|refine cX ?_|refine xM (λhc=>?_) λhc=>?_|(refine zE ?_;refine xT ?_;(first|(refine vS 43 ?_;first|refine wG (zH (c) Z Z Z Z Z) Z ?_|refine uS (zH (c) Z Z Z Z Z) Z Z Z ?_|refine ZU (zH (c) Z Z Z Z Z) Z Z Z ?_)))|fail))
  exact⟨n-1,zB,k+1,zB,by rw[hq',hm2,hd2];rfl⟩
 obtain rfl:k=M:=by omega
 rw[<-eg];clear eg ac;refine zFl 1002 Z Z (by simp[XH,YA,iA]) (by simp[XI,qX,YA,NF,iA,zD]) ?_
 (repeat' (first|refine cX ?_|refine xM (λhc=>?_) λhc=>?_|fail))
 exact zL [1000,1002] Z Z Z Z
theorem zB0 (d:Dk) (r:Int):∀i,∀a∈(YP d r i).1,∃n,a.sec=US n
 |0,a,h=>by cases h
 |i+1,a,h=>by
  have h:a∈(YP d r i).1++[agF (YP d r i).2 i r]:=h
  rcases yAw.1 h with h|h
  ·exact zB0 d r i a h
  ·rw[yA8.1 h];exact⟨_,rfl⟩
def NH (c:Cf):Prop:=∀a∈c.ags,BY a.sec/\a.sec.length=8
def zNj (d:Dk) (r:Int):NH (LA d r):=λa h=>by
 obtain⟨n,e⟩:=zB0 _ _ _ a h;rw[e];exact⟨zO8 _,PG _⟩
def cdA (a:Ag):Ag:=⟨a.sec,a.rights,a.cls,[4,4,0,0],a.req,a.ses,20,40⟩
def AE (c:Cf):Cf:=⟨c.js,c.ags.map cdA,c.per,c.cap,c.hold,c.lock⟩
def zW0 {c:Cf} (h:VT c):VT (AE c):=by
 refine⟨h.j,h.jv,by rw[show(AE c).ags.length=c.ags.length from zZ9 ..];exact h.a,λa ha=>?_,h.p,h.cp,h.h,h.l⟩;obtain⟨b,hb,rfl⟩:=yA5.1 ha;have v:=h.av b hb;refine⟨v.s,rfl,λn hn=>?_,v.r,v.c,v.q,v.e,by show(0:Int)<=40/\(40:Int)<=1000;omega,by show(0:Int)<=20/\(20:Int)<=40;omega⟩;have hn:n∈[(4:Int),4,0,0]:=hn;simp only[yBd,yDo,yEy]at hn;omega
def zNk {c:Cf} (h:NH c):NH (AE c):=λa ha=>by
 obtain⟨b,hb,rfl⟩:=yA5.1 ha;exact h b hb
noncomputable def bfF (m:Ms):List Int:=Classical.epsilon λq=>BY q/\q.length<=210/\zN 13 [yB m] [] (zD yA q) []
def GU {m:Ms} (h:MgP m):BY (bfF m)/\(bfF m).length<=210/\zN 13 [yB m] [] (zD yA (bfF m)) []:=Classical.epsilon_spec (zId m h)
def tkC:Ev:=⟨6,0,0,0,[]⟩
def crT (c:Cf) (g:Int):List Int:=g::0::(c.ags.getD g.toNat default).sec
def crM (c:Cf) (g v:Int):Ms:=⟨4,crT c g,[v,v.tmod 2],[]⟩
def crQ (c:Cf) (d:Dk) (g j:Int):Ms:=⟨6,crT c g,[nx d 5,nx (ad d) 4,10+nx (ad (ad d)) 90,j,nx (ad (ad (ad d))) ((c.js.getD j.toNat default).ph.length:Int),0,10+nx (ad (ad (ad (ad d)))) 90],[]⟩
def crX (c:Cf) (d:Dk) (g:Int):Ms:=⟨8,crT c g,[nx d 5],[]⟩
def zGd {c:Cf} (h:NH c) (hl:c.ags.length<=4) {g:Int} (h0:0<=g) (h1:g<(c.ags.length:Int)):BY (crT c g)/\(crT c g).length=10:=by
 obtain⟨s1,s2⟩:=h _ (zP c.ags g.toNat zB);exact⟨zU8 zB zB s1,by show(c.ags.getD g.toNat default).sec.length+1+1=10;rw[s2]⟩
def zR2 {c:Cf} (h:NH c) (hl:c.ags.length<=4) {g v:Int} (h0:0<=g) (h1:g<(c.ags.length:Int)) (v0:0<=v) (v1:v<=100):MgP (crM c g v):=by
 obtain⟨t1,t2⟩:=zGd h hl h0 h1;have h1:=Int.tmod_nonneg 2 v0;have h2:v.tmod 2<2:=Int.tmod_lt_of_pos v zB;exact⟨t1,t2,by unfold crM;dsimp only;omega,.cons zB (.cons zB .nil),⟨0,zB,λh=>absurd Z h,rfl⟩,rfl⟩
def zR3 {c:Cf} (h:NH c) (hl:c.ags.length<=4) (hw:CfW c) (d:Dk) {g j:Int} (h0:0<=g) (h1:g<(c.ags.length:Int)) (j0:0<=j) (j1:j<(c.js.length:Int)):MgP (crQ c d g j):=by
 obtain⟨t1,t2⟩:=zGd h hl h0 h1;have hp:=hw.2 _ (zP c.js j.toNat zB);have hj:=hw.1;have b1:=xZ d 5 zB;have b2:=xZ (ad d) 4 zB;have b3:=xZ (ad (ad d)) 90 zB;have b4:=xZ (ad (ad (ad d))) ((c.js.getD j.toNat default).ph.length:Int) zB;have b5:=xZ (ad (ad (ad (ad d)))) 90 zB;exact⟨t1,t2,by unfold crQ;dsimp only;omega,.cons zB (.cons zB (.cons zB (.cons zB (.cons zB (.cons zB (.cons zB .nil)))))),⟨1,zB,λ_=>yAb _,rfl⟩,rfl⟩
def zR4 {c:Cf} (h:NH c) (hl:c.ags.length<=4) (d:Dk) {g:Int} (h0:0<=g) (h1:g<(c.ags.length:Int)):MgP (crX c d g):=by
 obtain⟨t1,t2⟩:=zGd h hl h0 h1;have b1:=xZ d 5 zB;exact⟨t1,t2,by unfold crX;dsimp only;omega,.cons zB .nil,⟨0,zB,λh=>absurd Z h,rfl⟩,rfl⟩
noncomputable def crE (c:Cf) (g v:Nat):Ev:=⟨3,qE c.ags g,0,0,bfF (crM c g v)⟩
noncomputable def BN (c:Cf):Nat->List Ev
 |0=>[]
 |g+1=>BN c g++(⟨1,qE c.ags g,0,0,[]⟩::(List.range 4).map (crE c g))
noncomputable def crR (c:Cf) (i:Nat) (p:List Ev×Dk):List Ev×Dk:=
 if nx p.2 4=0/\4<i then(p.1++[tkC],ad p.2)else
  let g:=nx (ad p.2) (c.ags.length:Int)
  let j:=nx (ad (ad p.2)) (c.js.length:Int)
  let d3:=ad (ad (ad p.2))
  let d8:=ad (ad (ad (ad (ad d3))))
  if nx d8 4=3 then(p.1++[tkC]++[⟨3,qE c.ags g.toNat,0,0,bfF (crX c (ad d8) g)⟩],ad (ad d8))
  else(p.1++[tkC]++[⟨3,qE c.ags g.toNat,0,0,bfF (crQ c d3 g j)⟩],ad d8)
noncomputable def cdS (c:Cf) (d:Dk):Nat->List Ev×Dk
 |0=>(BN c c.ags.length,d)
 |i+1=>crR c i (cdS c d i)
def EvM (l:List Ev) (n:Nat):Prop:=l.length<=n/\∀e∈l,FU e
theorem EvM.app {l m:List Ev} {a b:Nat} (h:EvM l a) (k:EvM m b):EvM (l++m) (a+b):=
 ⟨by rw[yAd];have:=h.1;have:=k.1;omega,λe he=>(yAw.1 he).elim (h.2 e) (k.2 e)⟩
theorem EvM.one {e:Ev} (h:FU e):EvM [e] 1:=⟨yAb _,λx hx=>by rw[yA8.1 hx];exact h⟩
def zW1:FU tkC:=evb zB zB zB zB fP zU
theorem zGe {c:Cf} (h:VT c) (hs:NH c):∀g,g<=c.ags.length->EvM (BN c g) (5*g)
 |0,_=>⟨yAb _,λe he=>by cases he⟩
 | g+1,hg=>by
  have ih:=zGe h hs g zB;have hb:=kY (l:=c.ags) h.ag g zB;have ha:=h.a
  have k:EvM (⟨1,qE c.ags g,0,0,[]⟩::(List.range 4).map (crE c g)) 5:=by
   refine⟨by simp,λe he=>?_⟩
   rcases yBd.1 he with rfl|he
   ·exact evb zB zB zB zB fP zU
   ·obtain⟨v,hv,rfl⟩:=yA5.1 he;rw[yAt]at hv;obtain⟨q1,q2,_⟩:=GU (zR2 (c:=c) (g:=(g:Int)) (v:=(v:Int)) hs zB zB zB zB zB);exact evb zB zB zB zB q1 zB
  have:=ih.app k;rw[show 5*(g+1)=5*g+5 by omega];exact this
def zW2 {c:Cf} (h:VT c) (hs:NH c) (i:Nat) {p:List Ev×Dk} {n:Nat} (H:EvM p.1 n):EvM (crR c i p).1 (n+2):=by
 have ha:=h.a;have hj:=h.j;have H1:=H.app (EvM.one zW1);have b1:=xZ (ad p.2) (c.ags.length:Int) zB;have b2:=xZ (ad (ad p.2)) (c.js.length:Int) zB;have hb:=kY (l:=c.ags) h.ag (nx (ad p.2) (c.ags.length:Int)).toNat zB
 have one:∀m,MgP m->FU ⟨3,qE c.ags (nx (ad p.2) (c.ags.length:Int)).toNat,0,0,bfF m⟩:=λm hm=>by
  obtain⟨q1,q2,_⟩:=GU hm;exact evb zB zB zB zB q1 zB
 unfold crR;split
 ·exact⟨by have:=H1.1;show(p.1++[tkC]).length<=_;omega,H1.2⟩
 ·dsimp only;split
  ·exact H1.app (EvM.one (one _ (zR4 hs ha.2 _ b1.1 b1.2)))
  ·exact H1.app (EvM.one (one _ (zR3 hs ha.2 h.w _ b1.1 b1.2 b2.1 b2.2)))
theorem zGf {c:Cf} (h:VT c) (hs:NH c) (d:Dk):∀i,EvM (cdS c d i).1 (20+2*i)
 |0=>by
  have:=zGe h hs c.ags.length (yAb _);have ha:=h.a;exact⟨by have:=this.1;show(BN c c.ags.length).length<=_;omega,this.2⟩
 |i+1=>by
  have:=zW2 h hs i (zGf h hs d i);rw[show 20+2*(i+1)=20+2*i+2 by omega];exact this
def eK (n:Int):Ag:=⟨US n,0,0,[1,1,1,1],1,1,0,0⟩
def QC (n:Int):zN 39 [iA n] [] (wK (eK n)) []:=by
 have sc:=DF n;unfold eK;generalize US n=sec at *;refine eM call39 λF hF=>?_
 refine WLo sc ?_;exact zJ
def zW3:Ph:=⟨0,0,2,3,1,1,0,0⟩
def AF:Jn:=⟨[zW3,zW3],[2,1],0⟩
def zDx (a b:Ag):Cf:=⟨[AF],[a,b],4,2,2,3⟩
def zGg (n:Int):AgV (eK n):=by
 refine⟨by show((US n).length:Int)=8;rw[PG];rfl,rfl,λk hk=>?_,?_,?_,?_,?_,?_,?_⟩
 ·have hk:k∈[(1:Int),1,1,1]:=hk;simp only[yBd,yDo,yEy]at hk;omega
 all_goals (unfold eK;dsimp only;omega)
def zW4 {p:Nat} (h:p<2):p=0∨p=1:=by omega
def zTa:JV AF:=by
 have two:∀{p:Nat},p<AF.ph.length->p=0∨p=1:=λh=>zW4 h
 refine⟨by decide,rfl,λi hi=>?_,λp hp=>?_,λp q hp hq=>?_,λp q hp hq hpq _=>?_,λp hp=>?_,λp hp=>?_,λp hp=>?_,λp hp g hg hgp=>?_,by decide⟩
 ·rcases two hi with rfl|rfl<;>decide
 ·rcases two hp with rfl|rfl<;>decide
 ·rcases two hp with rfl|rfl<;>rcases two hq with rfl|rfl<;>decide
 ·rcases two hp with rfl|rfl<;>rcases two hq with rfl|rfl<;>first|decide|exact absurd Z hpq
 ·rcases two hp with rfl|rfl<;>decide
 ·rcases two hp with rfl|rfl<;>decide
 ·rcases two hp with rfl|rfl<;>decide
 ·exfalso
  have:(yM AF p).group=0:=by rcases two hp with rfl|rfl<;>rfl
  omega
def zTb (m n:Int):VT (zDx (eK m) (eK n)):=by
 refine⟨by show 1<=1/\1<=4;omega,λj hj=>?_,by show 1<=2/\2<=4;omega,λa ha=>?_,?_,?_,?_,?_⟩
 ·have hj:j∈[AF]:=hj;rw[yA8.1 hj];exact zTa
 ·have ha:a∈[eK m,eK n]:=ha;simp only[yBd,yDo,yEy]at ha
  rcases ha with rfl|rfl
  ·exact zGg _
  ·exact zGg _
 all_goals (unfold zDx;dsimp only;omega)
def zW5 (m n:Int):VW (zDx (eK m) (eK n)) 0=43:=by
 have h1:RA [eK m,eK n] 2=2:=rfl;have h2:ZP AF=4:=by decide
 show(3:Int)+2*4+(min (RA [eK m,eK n] 2) ((2:Nat):Int)+2)*(ZP AF+2+2)=43
 rw[h1,h2]
 decide
def zZa (m n:Int):fO (zDx (eK m) (eK n)) (zDx (eK m) (eK n)).js.length=43:=by
 show max 0 (VW (zDx (eK m) (eK n)) 0)=43
 rw[zW5]
 decide
def zDy:zN 10 [] [] (bA true) []:=by
 have a1:=QC 1;have a2:=QC 2;have v:=zTb 1 2;have b:=zGc _ v 0 xG;have l:=zBz _ v;rw[zW5]at b;rw[zZa]at l;clear v;generalize eK 1=x at *;generalize eK 2=y at *;refine eM call10 λF hF=>?_
 refine WLc (ZK a1 a2 b l) ?_;exact zJ
end Av
end Go.Proofs.YteajjdidebfcjaaGreat
