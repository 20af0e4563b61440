/- Part 9. -/
import Derived.Test.YtmamjhmoegjapaaGreatQ08
import Derived.Laws.BytesArg
import Derived.Laws.Strings
import Derived.Laws.StructEq
namespace Go.Proofs.YtmamjhmoegjapaaGreat
namespace Av
set_option linter.all false
theorem UZ (w:World) (o:Obj) (b:Nat) (h:b<w.heap.size):(w.alloc o).heap[b]? =w.heap[b]? :=by
 show(w.heap.push o)[b]? =_
 rw[Array.getElem?_push,zW8 (by omega)]
theorem gA.grow {K0:List Nat} {F:Fr K0} {h:yH} {β:uB} {w w':World} {X:Nat->Prop} (K:gA F h β w) (H:kI X h β w) (hs:w.heap.size<=w'.heap.size) (hk:∀b,b<w.heap.size->w'.heap[b]? =w.heap[b]?) (o1:w'.os=w.os) (o2:w'.tape=w.tape) (o3:w'.output=w.output):gA F h β w':=
 ⟨K.knd,zYg K.size hs,λb hb hi hn=>by rw[hk b (zYh hb K.size)];exact K.keep b hb hi hn,K.own,K.pas,λk b n hm=>by
  rw[<-K.bs k b n hm];obtain⟨n',_,hm'⟩:=K.pas k b n hm;unfold xX World.shape?
  rw[hk b (H.lt b (.inr ⟨k,n',hm'⟩))],o1.trans K.os,o2.trans K.tape,o3.trans K.output⟩
section
variable {P:Program} {K0:List Nat} {F:Fr K0} {m:Nat} {st:St} {T:List (Nat×AV)} {a:Act} {l:Nat} {hc:List (Nat×xN)} {rec:Loop} {O X:Nat->Prop} {W:World}
theorem TA.rel (C:TA F T a l hc rec O X W) (hit:F.it=false) (hT:∀i,zG T GS≠ .gh i) (gs:m<=GS) (hl:a.tmps.size=m) (o:Obj):wH F m ⟨T,hc⟩ a (W.putObj l o):=by
 obtain⟨⟨Xc,βc,c1,c2,c3,c4,⟨bs,d1,d2,d3⟩,c6,c8,c10,c11⟩,lx,lo,lh,ll,xl,nd⟩:=C;have sz:(W.putObj l o).heap.size=W.heap.size:=by simp
 have kp:∀b,b≠l->(W.putObj l o).heap[b]? =W.heap[b]? :=λb hb=>World.putObj_heap_other hb
 have kp':∀b,b<W.heap.size->¬Xc b->(W.putObj l o).heap[b]? =W.heap[b]? :=λb _ hx=>kp b λe=>hx (e▸c11)
 refine⟨⟨Xc,βc,c1,c2.turn (zZa sz.symm) kp',λt=>(c3 t).evo (VE c2 (zZa sz.symm) kp'),c4.turn c2 sz kp' (λb hb=>kp b λe=>by omega) rfl rfl rfl,λi hi=>absurd hi (hT i),bs,d1,(λh=>by rw[hit]at h;cases h),d2,λb hb=>?_⟩,nd,gs,hl⟩;obtain⟨q1,q2,q3,q4⟩:=d3 b hb;exact⟨q1,q2,by rw[kp b λe=>by rw[e,lh]at q3;cases q3];exact q3⟩
def rfQ (Ks:List Nat) (h':List (Nat×xN)) (p:Prop) (Q:Exit->St->Prop) (T:List (Nat×AV)):Exit->St->Prop
 | .normal,s=>wS Ks (zC s.h)=h'/\p
 | .ret,s=>Q .ret ⟨T,wS Ks (zC s.h)⟩
 | .exit id,s=>Q (.exit id) ⟨T,wS Ks (zC s.h)⟩
 |_,_=>False
theorem vO {g:Operand} {ps:Array Tmp} {assign body:Code} {f:Nat} {caps:List AV} {h0:List (Nat×xN)} {xs:List (List AV)} {Q:Exit->St->Prop} (hF:F.ro=none/\F.it=false) (hit:YA P f caps h0 xs) (hg:yL (zG st.tm) g= .fn f caps)
  (Ks ts:List Nat) (hKs:K0.all (Ks.contains ·)=true) (hdis:Ks.all (λk=>!(yD h0).contains k)=true) (hh0:(yD h0).map (zC st.h)=(yD h0).map (zC h0)) (hcl:h0.all (λp=>clE (yD h0) p.2)=true)
  (hcap:(qN caps).all ((yD h0).contains ·)=true) (hts:ts.all (λt=>(zG st.tm t).refs.all (λk=>!(yD h0).contains k))=true)
  (hks:Ks.all (λk=>match zC st.h k with|some (.box cs)=>(qN cs).all (λj=>!(yD h0).contains j)|_=>true)=true) (hgs:ts.all (λt=>!(Nat.beq t GS))=true) (hps:ps.toList.all (Nat.blt · m)=true) (hpl:∀(i:Nat) ys,xs[i]? =some ys->ps.size=ys.length)
  (H:Nat->List (Nat×xN)) (I:Nat->Prop) {T:List (Nat×AV)} (e0:restr Ks ts st=⟨T,H 0⟩) (i0:I 0)
  (round:∀(i:Nat) ys l,xs[i]? =some ys->I i->∀(F1:Fr (yD (H i))),F1.it=true->F1.ro=some l->uC P F1 m assign ⟨zBx ps.toList ys T,H i⟩ (λe s=>e= .normal/\∀(F2:Fr (yD s.h)),F2.it=true->F2.ro=some l->uC P F2 m body s (rfQ Ks (H (i+1)) (I (i+1)) Q T)))
  (done:I xs.length->Q .normal ⟨T,H xs.length⟩) (hnn:nnH st.h=true:=by rfl):uC P F m (.rangeFunc g ps assign body) st Q:=⟨λa w R=>by
 rw[hF.1]
 change Code.wpIn Fence.wide 0 P _ _ a w
 obtain⟨⟨X0,β,hX,HH,Ht,KK,_,bs,hds,_,hbn,hbs⟩,nd,gs,hl⟩:=R
 have hK:∀k,k∈yD h0->zC st.h k=zC h0 k:=λk hk=>by
  obtain⟨i,hi⟩:=yAn hk;have:=zX7 (·[i]?) hh0;simpa [hi]using this
 have hclosed:∀k e,zC h0 k=some e->clE (yD h0) e=true:=λk e hk=>by
  obtain⟨p,hp,he⟩:=gI hk;have:=zXm.1 hcl p hp;rw[he]at this;exact this
 have hdis':∀k,k∈yD h0->¬k∈Ks:=λk h1 h2=>by
  have:=zXm.1 hdis k h2;simp at this;exact this h1
 have hent:∀k cs,k∈Ks->zC st.h k=some (.box cs)->∀j,j∈qN cs->¬j∈yD h0:=λk cs hk he j hj h1=>by
  have:=zXm.1 hks k hk;rw[he]at this;have:=zXm.1 this j hj;simp at this;exact this h1
 have hK0:∀k,k∈K0->k∈Ks:=λk hk=>by simpa using zXm.1 hKs k hk
 have hTt:T=ts.map λt=>(t,wN Ks (zC st.h) (zG st.tm t)):=by have:=zX7 St.tm e0;exact this.symm
 have hH0:wS Ks (zC st.h)=H 0:=zX7 St.h e0
 have hlook:∀t,zG T t=if t∈ts then wN Ks (zC st.h) (zG st.tm t)else .bot:=λt=>by
  rw[<-jC Ks ts st t,e0]
 have hTi:∀t h',wN Ks h' (zG T t)=zG T t:=λt h'=>by
  rw[hlook];split
  ·exact zJg _ _ _ _
  ·rfl
 have hTg:∀i,zG T GS≠ .gh i:=λi=>by
  rw[hlook];split
  ·rename_i h;have:=zXm.1 hgs GS h;simp at this
  ·intro h;cases h
 have hfv:=RM Ht g;rw[hg]at hfv
 obtain⟨cv,hfx,hcvl,hcv⟩:∃cv:Array Value,a.eval g= .func (.func f) #[] cv/\cv.size=caps.length/\∀(i:Nat) v,caps[i]? =some v->zV w (xF X0 β) (zC st.h) β v (cv.getD i undef):=by
  generalize a.eval g=cx at hfv
  cases hfv with
  |fz _ _ hf=>cases hf
  |fn _ _ c hl hh=>exact⟨c,rfl,hl,hh⟩
 refine wpIn_rangeFunc (F:=Fence.wide) (n:=0) λfn _=>?_
 generalize hrec:({state:= .ready,pending:=none,fn:=fn,tmps:=a.tmps,params:=ps,assign:=assign,body:=body,defers:=w.heap.size}:Loop)=rec;obtain⟨w1,hw1⟩:∃w1,w1=(w.alloc (.deferred (some []))).alloc (.loop rec):=⟨_,rfl⟩;have sz1:w1.heap.size=w.heap.size+2:=by rw[hw1];simp
 have kp1:∀b,b<w.heap.size->w1.heap[b]? =w.heap[b]? :=λb hb=>by rw[hw1,UZ _ _ b wQ,UZ _ _ b hb]
 have hbd:w1.heap[w.heap.size]? =some (.deferred (some [])):=by rw[hw1,UZ _ _ _ zS];exact World.alloc_heap_new _ _
 have hlp:w1.heap[w.heap.size+1]? =some (.loop rec):=by
  rw[hw1];have:=World.alloc_heap_new (w.alloc (.deferred (some []))) (.loop rec);simpa using this
 have oth1:w1.os=w.os/\w1.tape=w.tape/\w1.output=w.output:=by rw[hw1];exact⟨rfl,rfl,rfl⟩
 have hent1:(Instr.enterLoop fn a.tmps ps assign body none).run P w= .ok (w.heap.size+1,[{target:= .collected w.heap.size,args:= #[]}]) w1:=by
  rw[hw1,<-hrec];exact run_enterLoop_outer fn a.tmps ps assign body
 generalize hl0:w.heap.size+1=l at hlp hent1
 let a':Act:={a with defers:=[{target:= .collected w.heap.size,args:= #[]}]++a.defers}
 let J:Nat->(Nat->Prop)->(Nat->Prop)->World->Prop:=λi O X W=>(i<=xs.length/\I i/\TA F T a' l (H i) rec O X W)∨
  (xs.length<i/\∃h' x c,zJh x c/\Q x ⟨T,h'⟩/\TA F T a' l h' {rec with state:= .done,pending:=some c} O X W)
 have Jst:∀i O X w w' O',J i O X w->w.heap.size<=w'.heap.size->(∀b,b<w.heap.size->¬O b->w'.heap[b]? =w.heap[b]?)->(∀b,O' b->O b∨w.heap.size<=b)->(∀b,O' b->b<w'.heap.size)->w'.os=w.os->w'.tape=w.tape->w'.output=w.output->J i O' X w':=by
  rintro i O X v v' O' (⟨h1,hI,h2⟩|⟨h1,h',x,c,h2,h3,h4⟩) q1 q2 q3 q4 q5 q6 q7
  ·exact .inl ⟨h1,hI,h2.stab q1 q2 q3 q4 q5 q6 q7⟩
  ·exact .inr ⟨h1,h',x,c,h2,h3,h4.stab q1 q2 q3 q4 q5 q6 q7⟩
 let O0:Nat->Prop:=Own (βr (yD h0) β)
 let Xa:Nat->Prop:=λb=>X0 b∨∃k n,k∈yD h0/\(b,n)∈β k
 let Xc:Nat->Prop:=λb=>Xa b∨b=w.heap.size∨b=l
 let Xi:Nat->Prop:=λb=>X0 b∨Own (βr Ks β) b
 let X1:Nat->Prop:=λb=>Xi b∨b=w.heap.size∨b=l
 have hOlt:∀b,O0 b->b<w.heap.size:=λb ⟨k,n,hm⟩=>HH.lt b (.inr ⟨k,n,(qV hm).2⟩)
 have hXalt:∀b,Xa b->b<w.heap.size:=λb hb=>hb.elim (λh=>HH.lt b (.inl h)) λ⟨k,n,_,hm⟩=>HH.lt b (.inr ⟨k,n,hm⟩)
 have hXilt:∀b,Xi b->b<w.heap.size:=λb hb=>hb.elim (λh=>HH.lt b (.inl h)) λ⟨k,n,hm⟩=>HH.lt b (.inr ⟨k,n,(qV hm).2⟩)
 have hOX:∀b,O0 b->¬X0 b:=λb ⟨k,n,hm⟩ hx=>HH.free k b n (qV hm).2 hx
 obtain⟨H1,hv1⟩:=HH.restrX (X':=Xa) Ks (yD h0) (λb hb=>hb) hdis' (zJf hnn) hent
 have Q1:bT Xa Xc w w1:=⟨by omega,λb hb hx=>⟨kp1 b hb,λh=>by
  rcases h with h|h|h
  ·exact hx h
  ·omega
  ·omega⟩,λb hb=> .inl hb,λb hb=>by
  rcases hb with h|h|h
  ·have:=hXalt b h;omega
  ·omega
  ·omega,oth1.1,oth1.2.1,oth1.2.2⟩
 obtain⟨H2,hv2⟩:=zWy (Xc:=Xi) HH hK hclosed (λb hb=>by
  rcases hb with h|⟨k,n,hm⟩
  ·exact .inl h
  ·obtain⟨hk,hm⟩:=qV hm
   exact .inr ⟨k,n,λh=>hdis' k h hk,hm⟩)
 have Q2:bT Xi X1 w w1:=⟨by omega,λb hb hx=>⟨kp1 b hb,λh=>by
  rcases h with h|h|h
  ·exact hx h
  ·omega
  ·omega⟩,λb hb=> .inl hb,λb hb=>by
  rcases hb with h|h|h
  ·have:=hXilt b h;omega
  ·omega
  ·omega,oth1.1,oth1.2.1,oth1.2.2⟩
 have C0:TA F T a' l (H 0) rec O0 X1 w1:=by
  rw[<-hH0];refine⟨⟨Xc,βr Ks β,⟨λb hb=> .inl (.inl (hX.1 b hb)),λb hb=>?_⟩,Q1.hok H1,λt=>?_,(KK.restr Ks hK0).grow H1 (by omega) kp1 oth1.1 oth1.2.1 oth1.2.2,⟨w.heap.size::bs,?_,?_,λb hb=>?_⟩,λb hb=>?_,λb hb=> .inl (.inr hb),λb hb=>?_,.inr (.inr rfl)⟩,.inr (.inr rfl),λh=>?_,hlp,?_,Q2.lt,λk=>?_⟩
  ·rcases hb with(h|⟨k,n,hk,hm⟩)|h|h
   ·exact hX.2 b h
   ·rcases KK.own k b n hm with⟨k',n',h⟩|h
    ·exfalso;obtain⟨n'',_,hm'⟩:=KK.pas k' b n' h;have:=HH.disj k k' b n n'' hm hm';subst this;exact hdis' k hk (hK0 k (F.hK k b n' h))
    ·exact .inr h
   ·exact .inr (by have:=KK.size;omega)
   ·exact .inr (by have:=KK.size;omega)
  ·rw[hlook];split
   ·rename_i ht
    exact(hv1 _ _ (λj hj h1=>by
     have:=zXm.1 hts t ht;have:=zXm.1 this j hj;simp at this
     exact this h1) (Ht t)).evo (Q1.evo H1)
   ·exact .fz _ _ (.bot _)
  ·show [_]++a.defers=_
   rw[hds];rfl
  ·refine List.nodup_cons.2 ⟨λh=>?_,hbn⟩;have:=HH.lt _ (.inl (hbs _ h).1);omega
  ·rcases zYq.1 hb with rfl|hb
   ·exact⟨.inr (.inl rfl),KK.size,hbd,λh=>by have:=hOlt _ h;omega⟩
   ·obtain⟨q1,q2,q3⟩:=hbs b hb;exact⟨.inl (.inl q1),q2,by rw[kp1 b (HH.lt b (.inl q1))];exact q3,λh=>hOX b h q1⟩
  ·obtain⟨k,n,hm⟩:=hb;obtain⟨hk,hm⟩:=qV hm;refine⟨.inl (.inr ⟨k,n,hk,hm⟩),?_,λh=>HH.free k b n hm (hX.1 b h)⟩
   rcases KK.own k b n hm with⟨k',n',h⟩|h
   ·exfalso;obtain⟨n'',_,hm'⟩:=KK.pas k' b n' h;have:=HH.disj k k' b n n'' hm hm';subst this;exact hdis' k hk (hK0 k (F.hK k b n' h))
   ·exact h
  ·rcases hb with(h|⟨k,n,hk,hm⟩)|h|h
   ·exact .inl (.inl (.inl h))
   ·exact .inr ⟨k,n,by rw[VR hk];exact hm⟩
   ·exact .inl (.inr (.inl h))
   ·exact .inl (.inr (.inr h))
  ·have:=hOlt _ h;omega
  ·have:=KK.size;omega
  ·rw[xW];split
   ·intro h;rw[zXn]at h;obtain⟨e,he,h2⟩:=h
    cases e with
    |dead=>exact nd k he
    |box cs=>cases h2
    |arr sz xs fl=>obtain⟨xs2,fl2,h4,_⟩:=jU Ks (zC st.h) sz xs fl;rw[h4]at h2;cases h2
   ·intro h;cases h
 let Fi:Fr (yD h0):=⟨X1,w1,βr (yD h0) β,zC h0,λk b n hm=>(qV hm).1,λk e he=>vF he,none,true,X1,J,Jst⟩
 have call:=hit.sim l cv Fi ⟨rfl,λ_ h=>h⟩ rfl rfl hcvl (Q2.hok H2) (λi v hv=>(hv2 v _ (hcv i v hv) (λk hk=>by
   have:=zXm.1 hcap k (xR hv hk)
   simpa using this)).evo (Q2.evo H2)) (.inl ⟨zXp _,i0,C0⟩) (by
  intro i ys X O W cs hys hj hcs hrep;have hilt:i<xs.length:=(zXv.1 hys).1
  rcases hj with⟨_,hI,C⟩|⟨h,_⟩
  case inr=>omega
  have hd:=C.round (P:=P) (m:=m) (Ks:=Ks) (ys:=ys) (cs:=cs) (Rq:=λe h'=>(e= .normal/\h'=H (i+1)/\I (i+1))∨((e= .ret∨∃id,e= .exit id)/\Q e ⟨T,h'⟩)) (λp hp=>by simpa using zXm.1 hps p hp) (show a'.tmps.size=m from hl) gs hrec.symm hTi hK0 hcs (hpl i ys hys) hrep
   (λe h hq=>by
    rcases hq with⟨rfl,_⟩|⟨h|h,_⟩
    ·exact .inl rfl
    ·exact .inr (.inl h)
    ·exact .inr (.inr h)) (λF1 f1 f2=>(round i ys l hys hI F1 f1 f2).mono λe s ⟨he,hb⟩=>⟨he,λF2 g1 g2=>(hb F2 g1 g2).mono λe' s' hq=>by
     cases e' with
     |normal=>exact .inl ⟨rfl,hq⟩
     |ret=>exact .inr ⟨.inl rfl,hq⟩
     |exit id=>exact .inr ⟨.inr ⟨id,rfl⟩,hq⟩
     |goto t=>exact hq.elim
     |panic c=>exact hq.elim
     |outgrown=>exact hq.elim⟩)
  obtain⟨fn',tm',as',bo',h1,h2⟩:=hd;refine⟨fn',tm',as',bo',h1,RoundIn.mono h2 ?_⟩;rintro e W' (⟨he,X',q,h',hq,C'⟩|⟨he,X',q,h',x,c,hx,hq,C'⟩)
  ·refine .inl ⟨he,X',q,.inl ⟨by omega,?_⟩⟩
   rcases hq with⟨_,rfl,hI'⟩|⟨h|⟨id,h⟩,_⟩
   ·exact⟨hI',C'⟩
   ·cases h
   ·cases h
  ·refine .inr ⟨he,X',q,.inr ⟨by omega,h',x,c,hx,?_,C'⟩⟩
   rcases hq with⟨h,_⟩|⟨_,h⟩
   ·rcases hx with⟨rfl,_⟩|⟨id,rfl,_⟩<;>cases h
   ·exact h)
 refine⟨l,[{target:= .collected w.heap.size,args:= #[]}],w1,{target:= .fn (.func f) cv,args:= #[.func (.yield l) #[] #[]]},w1,f, #[.func (.yield l) #[] #[]]++cv,w1,hent1,?_,λ_ _=>trivial,(by simp only[invoke];exact hit.able _ _),λh=>by simp[Fence.wide]at h,?_⟩
 ·unfold resolve rangeCall;dsimp only;rw[hfx];simp[Deferred.ofValue,Act.eval]
 ·refine callsIn_wide.2 (Calls.mono call ?_);rintro e w' ⟨⟨v,rfl⟩,i,O,X,hj,hi⟩;have len':a'.tmps.size=m:=hl
  rcases hj with⟨h1,hI,C⟩|⟨h1,h',x,c,hx,hq,C⟩
  ·obtain rfl:i=xs.length:=by omega
   refine⟨_,_,run_endLoop C.lh (by rw[<-hrec];intro h;cases h),?_⟩;rw[show rec.pending=none by rw[<-hrec]];exact⟨_,done hI,C.rel hF.2 hTg gs len' _⟩
  ·refine⟨_,_,run_endLoop C.lh (by intro h;cases h),?_⟩;have R:=C.rel hF.2 hTg gs len' (.loop {({rec with state:= .done,pending:=some c}:Loop)with state:= .exhausted})
   rcases hx with⟨rfl,rfl⟩|⟨id,rfl,rfl⟩
   ·exact wpIn_ret ⟨_,hq,R⟩
   ·exact wpIn_exit ⟨_,hq,R⟩⟩
end
def byA (n:Int):AV:= .s (.int .u8 n)
def eqY (a b:List Int):Bool:=(strOfNums a).toList==(strOfNums b).toList
def BY (l:List Int):Prop:=∀x∈l,0<=x/\x<256
theorem PV (a:List Int):(strOfNums a).toList=a.map λn=>UInt8.ofNat n.toNat:=by
 rw[ByteArray.toList_eq];rfl
theorem zS6 (a b:List Int):eqY a b=decide ((a.map λn=>UInt8.ofNat n.toNat)=b.map λn=>UInt8.ofNat n.toNat):=by
 unfold eqY;rw[PV,PV];rw[yBx];simp
theorem VP (a:List Int):eqY a a=true:=by rw[zS6];simp
def fV (m n:Int):Int:=IntKind.i64.wrap (BitVec.ofInt IntKind.i64.bits m &&& BitVec.ofInt IntKind.i64.bits n).toNat
def orI (m n:Int):Int:=IntKind.i64.wrap (BitVec.ofInt IntKind.i64.bits m ||| BitVec.ofInt IntKind.i64.bits n).toNat
def zS7 (m n:Int):Int:=IntKind.i64.wrap (BitVec.ofInt IntKind.i64.bits m &&& ~~~BitVec.ofInt IntKind.i64.bits n).toNat
section
variable {P:Program} {TT:List TI} {tm:List (Nat×AV)} {h:List (Nat×xN)} {tx ty:Nat} {x y:Operand}
theorem zJb {m n:Int} (hx:yL (zG tm) x= .s (.int .i64 m)) (hy:yL (zG tm) y= .s (.int .i64 n)):wR P ⟨tm,h⟩ (.binOp .and tx x y ty) (.s (.int .i64 (fV m n))) [] [] []:=RN hx hy
theorem zOc {m n:Int} (hx:yL (zG tm) x= .s (.int .i64 m)) (hy:yL (zG tm) y= .s (.int .i64 n)):wR P ⟨tm,h⟩ (.binOp .or tx x y ty) (.s (.int .i64 (orI m n))) [] [] []:=JY hx hy
theorem zJc {m n:Int} (hx:yL (zG tm) x= .s (.int .i64 m)) (hy:yL (zG tm) y= .s (.int .i64 n)):wR P ⟨tm,h⟩ (.binOp .andNot tx x y ty) (.s (.int .i64 (zS7 m n))) [] [] []:=AT hx hy
theorem MV {a b:List Int} (hx:yL (zG tm) x= .s (.string (strOfNums a))) (hy:yL (zG tm) y= .s (.string (strOfNums b))):wR P ⟨tm,h⟩ (.binOp .eql tx x y ty) (.s (.bool (eqY a b))) [] [] []:=TP hx hy (.inl ⟨rfl,rfl⟩)
theorem MW {a b:List Int} (hx:yL (zG tm) x= .s (.string (strOfNums a))) (hy:yL (zG tm) y= .s (.string (strOfNums b))):wR P ⟨tm,h⟩ (.binOp .neq tx x y ty) (.s (.bool (!eqY a b))) [] [] []:=TP hx hy (.inr ⟨rfl,rfl⟩)
theorem DB (hP:uL P TT) {src dst e:Nat} {ts te td:TI} {nn:Bool} {xs:List AV} {l:List Int} (hs:TT[src]? =some ts) (hsd:ts.d= .slice e) (he:TT[e]? =some te) (hek:te.d= .int .u8) (hd:TT[dst]? =some td) (hdd:td.d= .string)
  (hx:yL (zG tm) x= .sl nn xs) (hl:xs=l.map byA):wR P ⟨tm,h⟩ (.convert src dst x) (.s (.string (strOfNums l))) [] [] []:=
 yQ λo X tm h w β a ho hg _ HH Ht=>by
  obtain⟨dst',op',type,pos,after,guard⟩:=o;dsimp only at ho;subst ho;have h1:=jL Ht hg (x:=x) uE hx;obtain⟨_,u1,_,_,hu1,_,hd1,_⟩:=vV (hP _ _ hs);obtain⟨_,u2,_,_,hu2,_,hd2,_⟩:=vV (hP _ _ he);obtain⟨_,u3,_,_,hu3,_,hd3,_⟩:=vV (hP _ _ hd);obtain rfl:=vQ (hd1.symm.trans hsd);obtain rfl:=JQ (hd2.symm.trans hek);obtain rfl:=zDs (hd3.symm.trans hdd);subst hl;refine⟨.string (strOfNums l),?_,.fz _ _ (.s _)⟩
  have key:(convert src dst (a.eval x)).run P w= .ok (.string (strOfNums l)) w:=by
   generalize a.eval x=cx at h1
   cases h1 with
   | fz _ _ hf=>
    generalize hxs:l.map byA=xs at hf
    cases hf with
    | nil b cap=>
     obtain rfl:l=[]:=by cases l with
      |nil=>rfl
      |cons z l=>simp at hxs
     cases b with
     |none=>exact run_convert_bytes_nil w src e hu1 hu2 0 cap dst hu3
     |some b=>
      rw[run_convert_bytes_string w src dst e _ 0 cap hu1 hu2 hu3];simp[Conv.bytesToString,loadCells];rfl
    | nil1 b cap=>
     obtain rfl:l=[]:=by cases l with
      |nil=>rfl
      |cons z l=>simp at hxs
     rw[run_convert_bytes_string w src dst e _ 0 cap hu1 hu2 hu3];simp[Conv.bytesToString,loadCells];rfl
    | sl _ _ b o sz cap f hx hL hcc hh=>
     subst hxs;have hat:∀i,i<l.length->(l.map byA)[i]? =some (byA (l.getD i 0)):=λi hi=>by simp[List.getD,hi]
     have hsz:sz=1:=by
      cases l with
      |nil=>exact absurd rfl hx
      |cons z l=>exact(hL.wide 0 (byA z) rfl).symm
     subst hsz
     have:=run_convert_bytes_arg (P:=P) w src e hu1 hu2 b o (l.map byA).length cap l zS (λi hi=>by
      have hi':i<l.length:=by simpa using hi
      have h2:=hL.cell i 0 (by simpa using hi') (by omega);have h3:=(hh i _ 0 (byA (l.getD i 0)) (hat i hi') rfl);rw[show o+i=o+i*1+0 by omega,h2];unfold byA at h3;generalize f i 0=c at h3;cases h3
      rfl) dst hu3
     exact this
  simp[execOp,key]
end
section
variable {P:Program} {TT:List TI} {K0:List Nat} {F:Fr K0} {m:Nat} {ops:Array Oper} {rest:List Oper} {Q:List FP->St->Prop} {tm:List (Nat×AV)} {h:List (Nat×xN)} {dr:Bool} {fs:List FP}
variable {ty:Nat} {pos:String} {after:Array Edge} {t:Nat}
theorem qU {T:Nat} {x:Operand} {lo hi mx:Option Operand} {st:St} (hk:zZ P F m ops dr (⟨some t,.slice T x lo hi mx,ty,pos,after,none⟩::rest) st fs Q):zZ P F m ops dr (⟨some t,.slice T x lo hi mx,ty,pos,after,none⟩::rest) st fs Q:=hk
theorem XR (hP:uL P TT) {T e:Nat} {x l:Operand} {ti te:TI} {nn:Bool} {xs ys:List AV} {k:IntKind} {i:Int} (hx:yL (zG tm) x= .sl nn xs) (hl:yL (zG tm) l= .s (.int k i)) (hT:TT[T]? =some ti) (hd:ti.d= .slice e) (he:TT[e]? =some te)
  (hsz:∀y,xs[0]? =some y->y.cells.length=te.size) (h0:0<=i) (h1:i<=xs.length) (hy:xs.drop i.toNat=ys) (hm:Nat.blt t m=true) (hk:zZ P F m ops dr rest ⟨(t,.sl nn ys)::tm,h⟩ (⟨true,[],[]⟩::fs) Q):
  zZ P F m ops dr (⟨some t,.slice T x (some l) none none,ty,pos,after,none⟩::rest) ⟨tm,h⟩ fs Q:=by
 have:=bM (P:=P) (st:=⟨tm,h⟩) (lo:=some l) (hi:=none) (l:=i.toNat) (r:=xs.length) hP hx hT hd he ⟨k,i,hl,by omega⟩ rfl (by omega) (zXc _) hsz;rw[show(xs.drop i.toNat).take (xs.length-i.toNat)=ys by rw[<-hy];exact zXk zS]at this;exact xK this hm hk
theorem PW (hP:uL P TT) {T e:Nat} {x l:Operand} {ti te:TI} {nn:Bool} {xs ys:List AV} {k:IntKind} {i:Int} (hx:yL (zG tm) x= .sl nn xs) (hl:yL (zG tm) l= .s (.int k i)) (hT:TT[T]? =some ti) (hd:ti.d= .slice e) (he:TT[e]? =some te)
  (hsz:∀y,xs[0]? =some y->y.cells.length=te.size) (h0:0<=i) (h1:i<=xs.length) (hy:xs.take i.toNat=ys) (hm:Nat.blt t m=true) (hk:zZ P F m ops dr rest ⟨(t,.sl nn ys)::tm,h⟩ (⟨true,[],[]⟩::fs) Q):
  zZ P F m ops dr (⟨some t,.slice T x none (some l) none,ty,pos,after,none⟩::rest) ⟨tm,h⟩ fs Q:=by
 have:=bM (P:=P) (st:=⟨tm,h⟩) (lo:=none) (hi:=some l) (l:=0) (r:=i.toNat) hP hx hT hd he rfl ⟨k,i,hl,by omega⟩ (by omega) (by omega) hsz;rw[show(xs.drop 0).take (i.toNat-0)=ys by rw[<-hy];rfl]at this;exact xK this hm hk
theorem zOd (hP:uL P TT) {T e:Nat} {x l l2:Operand} {ti te:TI} {nn:Bool} {xs ys:List AV} {k k2:IntKind} {i j:Int} (hx:yL (zG tm) x= .sl nn xs) (hl:yL (zG tm) l= .s (.int k i)) (hl2:yL (zG tm) l2= .s (.int k2 j)) (hT:TT[T]? =some ti) (hd:ti.d= .slice e) (he:TT[e]? =some te)
  (hsz:∀y,xs[0]? =some y->y.cells.length=te.size) (h0:0<=i) (h1:i<=j) (h2:j<=xs.length) (hy:(xs.drop i.toNat).take (j.toNat-i.toNat)=ys) (hm:Nat.blt t m=true) (hk:zZ P F m ops dr rest ⟨(t,.sl nn ys)::tm,h⟩ (⟨true,[],[]⟩::fs) Q):
  zZ P F m ops dr (⟨some t,.slice T x (some l) (some l2) none,ty,pos,after,none⟩::rest) ⟨tm,h⟩ fs Q:=by
 have:=bM (P:=P) (st:=⟨tm,h⟩) (lo:=some l) (hi:=some l2) (l:=i.toNat) (r:=j.toNat) hP hx hT hd he ⟨k,i,hl,by omega⟩ ⟨k2,j,hl2,by omega⟩ (by omega) (by omega) hsz;rw[hy]at this;exact xK this hm hk
end
theorem zV.offK {w:World} {D D':Nat->Prop} {h h':yH} {β β':uB} (k:Nat) (hD:∀b,D' b->D b) (hh:∀j,j≠k->h' j=h j) (hβ:∀j,j≠k->β' j=β j) {v:AV} {c:Value} (hv:zV w D h β v c):k∉v.refs->zV w D' h' β' v c:=by
 induction hv with
 |fz v c hf=>exact λ_=> .fz v c (hf.less hD)
 |agg cs c hl h1 hr ih=>exact λhk=> .agg cs c hl h1 λi v hv=>ih i v hv λhm=>hk (xR hv hm)
 |fn f caps c hl hr ih=>exact λhk=> .fn f caps c hl λi v hv=>ih i v hv λhm=>hk (xR hv hm)
 |tup vs c hl hr ih=>exact λhk=> .tup vs c hl λi v hv=>ih i v hv λhm=>hk (xR hv hm)
 |dref j off len c hk' h1=>exact λhk=> .dref j off len c (by rw[hh j (λe=>hk (by simp[AV.refs,e]))];exact hk') h1
 |dptr j i off c hk' h1=>exact λhk=> .dptr j i off c (by rw[hh j (λe=>hk (by simp[AV.refs,e]))];exact hk') h1
 |ref j off len sz xs st b n cap hk' hb hn hc hs=>
  intro hk;have hj:j≠k:=λe=>hk (by simp[AV.refs,e])
  exact .ref j off len sz xs st b n cap PS zBt hn hc hs
 |ref0 j off sz xs st a hk' hn=>
  intro hk;have hj:j≠k:=λe=>hk (by simp[AV.refs,e])
  exact .ref0 j off sz xs st a PS hn
 |pbox j off cs b n hk' hb=>
  intro hk;have hj:j≠k:=λe=>hk (by simp[AV.refs,e])
  exact .pbox j off cs b n PS zBt
 |parr j i off sz xs st b n hk' hb hi ho=>
  intro hk;have hj:j≠k:=λe=>hk (by simp[AV.refs,e])
  exact .parr j i off sz xs st b n PS zBt hi ho
def AV.isGh:AV->Bool
 | .gh _=>true
 |_=>false
section
variable {P:Program} {K0:List Nat} {F:Fr K0} {m:Nat} {tm:List (Nat×AV)} {h:List (Nat×xN)}
def zOe (k:Nat):xN->Bool
 | .box cs=>!(qN cs).contains k
 | .arr _ xs fl=>bif fl.nest then !(qN xs).contains k else true
 | .dead=>true
theorem wH.compact {a:Act} {w:World} (R:wH F m ⟨tm,h⟩ a w) (k:Nat) (ws:List Nat) {sz:Nat} {xs:List AV} {sb:Bool} (hk:zC h k=some (.arr sz xs ⟨sb,false⟩)) (hK0:K0.contains k=false) (hws:ws.map (zG tm)=ws.map λ_=> .ref k 0 xs.length)
  (htm:tm.all (λp=>ws.contains p.1|| !p.2.refs.contains k)=true) (hbx:h.all (λp=>zOe k p.2)=true):wH F m ⟨tm,(k,.arr sz xs false)::h⟩ a w:=by
 obtain⟨⟨X,β,hX,H,Ht,KK,hJ,hD⟩,nd,gs,hl⟩:=R;have hE:=H.ent k _ hk;obtain⟨e1,e2,e3,e4,e5,f,e6,e7,e8⟩:=hE
 let β':uB:=λj=>if j=k then(β k).take 1 else β j
 have hsub:∀j b n,(b,n)∈β' j->(b,n)∈β j:=λj b n hm=>by
  dsimp only[β']at hm;split at hm
  ·rename_i e;subst e;exact zY1 hm
  ·exact hm
 have hDs:∀b,xF X β' b->xF X β b:=λb hd=>hd.imp id λ⟨j,n,hm⟩=>⟨j,n,hsub j b n hm⟩
 have hh':∀j,j≠k->zC ((k,.arr sz xs false)::h) j=zC h j:=λj hj=>by rw[xI,zW8 hj]
 have hhk:zC ((k,.arr sz xs false)::h) k=some (.arr sz xs false):=by rw[xI,zW9 rfl]
 have hβ':∀j,j≠k->β' j=β j:=λj hj=>by dsimp only[β'];rw[zW8 hj]
 have hβk:β' k=(β k).take 1:=by dsimp only[β'];rw[zW9 rfl]
 have whole:∀c,zV w (xF X β) (zC h) β (.ref k 0 xs.length) c->zV w (xF X β') (zC ((k,.arr sz xs false)::h)) β' (.ref k 0 xs.length) c:=λc hc=>by
  generalize hn:xs.length=n at hc
  cases hc with
  |fz _ _ hf=>cases hf
  |dref _ _ _ _ hd _=>exact absurd hd (nd k)
  | ref _ _ _ sz' xs' st' b n' cap hk2 hb hn' hc' hs'=>
   rw[hk]at hk2;cases hk2;refine .ref k 0 n sz xs false b n' cap hhk ?_ hn' hc' hs';rw[hβk]
   cases hbk:β k with
   |nil=>rw[hbk]at hb;simp at hb
   |cons p r=>
    rw[hbk]at hb;obtain⟨b0,n0⟩:=p;obtain⟨_,_,g3⟩:=e5 b0 n0 r hbk
    rcases zYq.1 hb with h1|h1
    ·rw[h1];simp
    ·exfalso;have:=g3 b n' h1;omega
  |ref0 _ _ sz' xs' st' ad hk2 hn'=>exact .ref0 k 0 sz xs false ad hhk (zXp _)
 have slot:∀t,zV w (xF X β') (zC ((k,.arr sz xs false)::h)) β' (zG tm t) (a.eval (.tmp t)):=λt=>by
  by_cases hw:t∈ws
  ·obtain⟨i,hi⟩:=yAn hw;have e:=zX7 (·[i]?) hws;simp only[zXd,hi,Option.map_some,zYj]at e;have:=Ht t;dsimp only at this;rw[e]at this⊢;exact whole _ this
  ·refine(Ht t).offK k hDs hh' hβ' ?_;dsimp only;intro hm
   have key:∀(l:List (Nat×AV)),l.all (λp=>ws.contains p.1|| !p.2.refs.contains k)=true->k∈(zG l t).refs->False:=λl=>by
    induction l with
    |nil=>intro _ hm;simp[zG,AV.refs]at hm
    | cons p r ih=>
     obtain⟨j,v⟩:=p;intro hl hm;rw[yN]at hm;simp only[yDc,zXo]at hl;split at hm
     ·rename_i e;subst e;have h1:=hl.1;simp only[zZe,zY5,zZl,yBo]at h1
      rcases h1 with h1|h1
      ·exact hw h1
      ·exact h1 (by simpa using hm)
     ·exact ih hl.2 hm
   exact key tm htm hm
 have H':kI X (zC ((k,.arr sz xs false)::h)) β' w:=by
  refine⟨λj e he=>?_,λj hj=>?_,λj j' b n n' h1 h2=>H.disj j j' b n n' (hsub _ _ _ h1) (hsub _ _ _ h2),λj b n hm=>H.free j b n (hsub _ _ _ hm),λb hd=>H.lt b (hDs b hd)⟩
  ·by_cases hj:j=k
   ·subst hj;rw[hhk]at he;cases he;refine⟨e1,e2,λhx=>?_,e4,λb n r hr=>?_,f,.ofF λi x l v hx hv=>(e6.toF rfl i x l v hx hv).less hDs,e7,λb n hm=>e8 b n (hsub _ _ _ hm)⟩
    ·rw[hβk];have:=e3 hx
     cases hbk:β j with
     |nil=>exact absurd hbk this
     |cons p r=>simp
    ·rw[hβk]at hr
     cases hbk:β j with
     |nil=>rw[hbk]at hr;simp at hr
     |cons p r'=>
      rw[hbk]at hr;simp only[yBw,yAc,List.cons.injEq]at hr;obtain⟨hp,hr⟩:=hr;subst hr;rw[hp]at hbk;obtain⟨g1,_,_⟩:=e5 b n r' hbk;exact⟨g1,λ_ b' n' hm=>by simp at hm,λb' n' hm=>by simp at hm⟩
   ·rw[hh' j hj]at he;have hE:=H.ent j e he
    cases e with
    |dead=>exact absurd he (nd j)
    |box cs=>
     obtain⟨b,c,el,g1,g2,g3,g4,g5⟩:=hE;refine⟨b,c,el,by rw[hβ' j hj];exact g1,g2,g3,g4,λi v hv=>(g5 i v hv).offK k hDs hh' hβ' λhm=>?_⟩;obtain⟨p,hp,hpe⟩:=gI he;have:=zXm.1 hbx p hp;rw[hpe]at this;have hmm:=xR hv hm;simp only[zOe,zZl,yBo]at this;exact this (by simpa using hmm)
    | arr sz' xs' st'=>
     obtain⟨g1,g2,g3,g4,g5,f',g6,g7,g8⟩:=hE;refine⟨g1,g2,by rw[hβ' j hj];exact g3,g4,by rw[hβ' j hj];exact g5,f',λi x l v hx hv=>?_,g7,by rw[hβ' j hj];exact g8⟩
     cases hn:st'.nest with
     |false=>exact⟨.fz _ _ ((g6.toF hn i x l v hx hv).less hDs),λ_=>(g6.toF hn i x l v hx hv).less hDs⟩
     |true=>
      refine⟨(g6.toV i x l v hx hv).offK k hDs hh' hβ' λhm=>?_,λh0=>by cases h0⟩;obtain⟨p,hp,hpe⟩:=gI he;have:=zXm.1 hbx p hp;rw[hpe]at this;simp only[zOe,hn,zYk]at this;have hmm:=xR hx (bK hv hm);simp only[zZl,yBo]at this;exact this (by simpa using hmm)
  ·rw[xI]at hj;split at hj
   ·cases hj
   ·rename_i hne;rw[hβ' j hne];exact H.off j hj
 have hkF:∀b n,(b,n)∉F.β0 k:=λb n hm=>by
  have:=F.hK k b n hm;simp only[yBo]at hK0;exact hK0 EU
 refine⟨⟨X,β',hX,H',slot,⟨λj e he=>?_,KK.size,KK.keep,λj b n hm=>KK.own j b n (hsub _ _ _ hm),λj b n hm=>?_,KK.bs,KK.os,KK.tape,KK.output⟩,λi hi=>?_,hD⟩,λj=>?_,gs,hl⟩
 ·have hj:j≠k:=λe'=>by
   subst e';have:=F.hh j e he;simp only[yBo]at hK0;exact hK0 EU
  have:=KK.knd j e he
  cases e with
  |dead=>exact this
  |box cs=>obtain⟨cs',h2⟩:=this;exact⟨cs',by dsimp only;rw[hh' j hj];exact h2⟩
  |arr sz' xs' sl'=>obtain⟨xs2,sl2,h2,h3⟩:=this;exact⟨xs2,sl2,by dsimp only;rw[hh' j hj];exact h2,h3⟩
 ·have hj:j≠k:=λe'=>by subst e';exact hkF b n hm
  rw[hβ' j hj];exact KK.pas j b n hm
 ·exact F.Jst i _ X w w _ (hJ i hi) (zXc _) (λ_ _ _=>rfl) (λb ⟨j,n,hm⟩=> .inl ⟨j,n,hsub _ _ _ hm⟩) (λb ⟨j,n,hm⟩=>H.lt b (.inr ⟨j,n,hsub _ _ _ hm⟩)) rfl rfl rfl
 ·dsimp only;by_cases hj:j=k
  ·subst hj;rw[hhk];intro hd;cases hd
  ·rw[hh' j hj];exact nd j
theorem wH.flag {a:Act} {w:World} (R:wH F m ⟨tm,h⟩ a w) (k:Nat) {sz:Nat} {xs:List AV} {st:Fl} (fl:Fl) (q1:fl.stale=false->st.stale=false) (q2:fl.nest=false->st.nest=false) (hk:zC h k=some (.arr sz xs st)):wH F m ⟨tm,(k,.arr sz xs fl)::h⟩ a w:=by
 obtain⟨⟨X,β,hX,H,Ht,KK,hJ,hD⟩,nd,gs,hl⟩:=R;have hh':∀j,j≠k->zC ((k,.arr sz xs fl)::h) j=zC h j:=λj hj=>by rw[xI,zW8 hj]
 have hhk:zC ((k,.arr sz xs fl)::h) k=some (.arr sz xs fl):=by rw[xI,zW9 rfl]
 have E:JP w (xF X β) (zC h) β w (xF X β) (zC ((k,.arr sz xs fl)::h)) β:=⟨zXc _,λb _ hd=>⟨rfl,hd⟩,λ_ _ _ _=>rfl,λj e he=>by
  by_cases hj:j=k
  ·subst hj;rw[hk]at he;cases he;exact .inr ⟨⟨xs,fl,hhk,zXc _⟩,λb n hm=>⟨n,zXc _,hm⟩⟩
  ·have:=qS (zC h) β j e he
   rcases this with h1|h1
   ·exact .inl (by rw[hh' j hj];exact h1)
   ·refine .inr ?_
    cases e with
    |dead=>exact h1
    |box cs=>obtain⟨⟨cs',h2⟩,h3⟩:=h1;exact⟨⟨cs',by rw[hh' j hj];exact h2⟩,h3⟩
    |arr sz' xs' st'=>obtain⟨⟨x2,s2,h2,h3⟩,h4⟩:=h1;exact⟨⟨x2,s2,by rw[hh' j hj];exact h2,h3⟩,h4⟩⟩
 have H':kI X (zC ((k,.arr sz xs fl)::h)) β w:=by
  refine⟨λj e he=>?_,λj hj=>?_,H.disj,H.free,H.lt⟩
  ·by_cases hj:j=k
   ·subst hj;rw[hhk]at he;cases he;obtain⟨e1,e2,e3,e4,e5,f,e6,e7⟩:=H.ent j _ hk;exact⟨e1,e2,e3,e4,λb n r hr=>⟨(e5 b n r hr).1,λh=>(e5 b n r hr).2.1 (q1 h),(e5 b n r hr).2.2⟩,f,λi x l v hx hv=>⟨(e6.toV i x l v hx hv).evo E,λh=>(e6.toF (q2 h) i x l v hx hv).evo E.size E.fz⟩,e7⟩
   ·rw[hh' j hj]at he;exact(H.ent j e he).evo E rfl λ_ _ _=>rfl
  ·rw[xI]at hj;split at hj
   ·cases hj
   ·exact H.off j hj
 refine⟨⟨X,β,hX,H',λt=>(Ht t).evo E,⟨λj e he=>?_,KK.size,KK.keep,KK.own,KK.pas,KK.bs,KK.os,KK.tape,KK.output⟩,hJ,hD⟩,λj=>?_,gs,hl⟩
 ·have:=KK.knd j e he;by_cases hj:j=k
  ·subst hj
   cases e with
   |dead=>exact this
   |box cs=>obtain⟨cs',h2⟩:=this;(try dsimp only at h2);rw[hk]at h2;cases h2
   |arr sz' xs' sl'=>obtain⟨xs2,sl2,h2,h3⟩:=this;(try dsimp only at h2);rw[hk]at h2;cases h2;exact⟨xs,fl,hhk,h3⟩
  ·cases e with
   |dead=>exact this
   |box cs=>obtain⟨cs',h2⟩:=this;exact⟨cs',by dsimp only;rw[hh' j hj];exact h2⟩
   |arr sz' xs' sl'=>obtain⟨xs2,sl2,h2,h3⟩:=this;exact⟨xs2,sl2,by dsimp only;rw[hh' j hj];exact h2,h3⟩
 ·dsimp only;by_cases hj:j=k
  ·subst hj;rw[hhk];intro hd;cases hd
  ·rw[hh' j hj];exact nd j
theorem vW {c:Code} {Q:Exit->St->Prop} (k:Nat) {sz:Nat} {xs:List AV} {sb:Bool} (hk:zC h k=some (.arr sz xs ⟨sb,false⟩)) (hs:uC P F m c ⟨tm,(k,.arr sz xs true)::h⟩ Q):uC P F m c ⟨tm,h⟩ Q:=
 ⟨λa w R=>hs.run a w (R.flag k true (λh=>by cases h) (λ_=>rfl) hk)⟩
theorem PX {c:Code} {Q:Exit->St->Prop} (k:Nat) {sz:Nat} {xs:List AV} {sb:Bool} (hk:zC h k=some (.arr sz xs ⟨sb,false⟩)) (hs:uC P F m c ⟨tm,(k,.arr sz xs ⟨sb,true⟩)::h⟩ Q):uC P F m c ⟨tm,h⟩ Q:=
 ⟨λa w R=>hs.run a w (R.flag (st:=⟨sb,false⟩) k ⟨sb,true⟩ (λh=>h) (λh=>Bool.noConfusion h) hk)⟩
theorem wH.wkT {a:Act} {w:World} (R:wH F m ⟨tm,h⟩ a w) (t:Nat) {v v':AV} (hv:zG tm t=v) (he:XO v=v') (hg:∀i,v'≠ .gh i):wH F m ⟨(t,v')::tm,h⟩ a w:=by
 obtain⟨⟨X,β,hX,H,Ht,KK,hJ,hD⟩,nd,gs,hl⟩:=R;refine⟨⟨X,β,hX,H,λj=>?_,KK,λi hi=>?_,hD⟩,nd,gs,hl⟩
 ·rw[yN];split
  ·rename_i hj;subst hj;have:=(Ht j).wk;dsimp only at this;rw[hv,he]at this;exact this
  ·exact Ht j
 ·rw[yN]at hi;split at hi
  ·exact absurd hi (hg i)
  ·exact hJ i hi
theorem SI {ops:Array Oper} {l:List Oper} {fs:List FP} {Q:List FP->St->Prop} (t:Nat) {v v':AV} (hv:zG tm t=v) (he:XO v=v') (hg:v'.isGh=false) (hk:zZ P F m ops false l ⟨(t,v')::tm,h⟩ fs Q):zZ P F m ops false l ⟨tm,h⟩ fs Q:=
 ⟨λa w R=>hk.run a w (R.wkT t hv he λi hi=>by rw[hi]at hg;cases hg)⟩
theorem DC {c:Code} {Q:Exit->St->Prop} (k:Nat) (ws:List Nat) {sz:Nat} {xs:List AV} {sb:Bool} (hk:zC h k=some (.arr sz xs ⟨sb,false⟩)) (hK0:K0.contains k=false) (hws:ws.map (zG tm)=ws.map λ_=> .ref k 0 xs.length)
  (htm:tm.all (λp=>ws.contains p.1|| !p.2.refs.contains k)=true) (hbx:h.all (λp=>zOe k p.2)=true) (hs:uC P F m c ⟨tm,(k,.arr sz xs false)::h⟩ Q):uC P F m c ⟨tm,h⟩ Q:=
 ⟨λa w R=>hs.run a w (R.compact k ws hk hK0 hws htm hbx)⟩
end
def p2 (n:Int):Int:=2 ^ n.toNat
def vR (m n:Int):Int:=m.fdiv (2 ^ n.toNat)
theorem zP2 (n:Int) (h:n<=40):1<=p2 n/\p2 n<=1099511627776:=by
 unfold p2;have h1:(2:Int) ^ n.toNat=((2 ^ n.toNat:Nat):Int):=by simp
 have h2:2 ^ n.toNat<=2 ^ 40:=yA9 (by omega) (by omega);have h3:0<2 ^ n.toNat:=Nat.two_pow_pos _;rw[h1];omega
section
variable {P:Program} {tm:List (Nat×AV)} {h:List (Nat×xN)} {tx ty:Nat} {x y:Operand}
theorem zJd {k':IntKind} {n:Int} (hx:yL (zG tm) x= .s (.int .i64 1)) (hy:yL (zG tm) y= .s (.int k' n)) (h0:0<=n/\n<=40):wR P ⟨tm,h⟩ (.binOp .shl tx x y ty) (.s (.int .i64 (p2 n))) [] [] []:=by
 have e:IntKind.i64.wrap (1*2 ^ (min n.toNat IntKind.i64.bits))=p2 n:=by
  have hb:IntKind.i64.bits=64:=rfl;have h1:=zP2 n h0.2;rw[hb,show min n.toNat 64=n.toNat by omega,yCp];exact qT (k:= .i64) ⟨by unfold p2 at h1;show -9223372036854775808<=_;omega,by unfold p2 at h1;show _<=9223372036854775807;omega⟩
 rw[<-e];exact jH (.inl ⟨rfl,rfl⟩) hx hy h0.1
theorem zJe {k':IntKind} {m n:Int} (hx:yL (zG tm) x= .s (.int .i64 m)) (hy:yL (zG tm) y= .s (.int k' n)) (h0:0<=n/\n<=40):wR P ⟨tm,h⟩ (.binOp .shr tx x y ty) (.s (.int .i64 (vR m n))) [] [] []:=by
 have hb:IntKind.i64.bits=64:=rfl;refine jH (.inr ⟨rfl,?_⟩) hx hy h0.1;rw[hb,show min n.toNat 64=n.toNat by omega];rfl
end
section
variable {P:Program} {K0:List Nat} {F:Fr K0} {m:Nat}
theorem VQ {x y:Code} {Q:Exit->St->Prop} {st:St} (K ts:List Nat) (st1:St) (hK:K0.all (K.contains ·)=true) (h1:uC P F m x st (λe s=>e= .normal/\restr K ts s=st1)) (h2:uC P F m y st1 Q):uC P F m x st (MR P F m y Q):=
 ⟨λa w H=>Code.wpIn_mono (λe a' w' ⟨s,⟨he,hs⟩,hr⟩=>by subst he;exact⟨st1,h2,hs▸wH.restr hr K ts hK⟩) (h1.run a w H)⟩
end
section
variable {P:Program} {tm:List (Nat×AV)} {h:List (Nat×xN)} {tx ty:Nat} {x y:Operand}
theorem AU {a b:List Int} {v:Bool} (hx:yL (zG tm) x= .s (.string (strOfNums a))) (hy:yL (zG tm) y= .s (.string (strOfNums b))) (hv:eqY a b=v):wR P ⟨tm,h⟩ (.binOp .eql tx x y ty) (.s (.bool v)) [] [] []:=hv▸MV hx hy
theorem AW {a b:List Int} {v:Bool} (hx:yL (zG tm) x= .s (.string (strOfNums a))) (hy:yL (zG tm) y= .s (.string (strOfNums b))) (hv:eqY a b=v):wR P ⟨tm,h⟩ (.binOp .neq tx x y ty) (.s (.bool (!v))) [] [] []:=hv▸MW hx hy
end
section
variable {P:Program} {K0:List Nat} {F:Fr K0} {m:Nat} {TT:List TI} {ops:Array Oper} {dr:Bool} {rest:List Oper} {tm:List (Nat×AV)} {h:List (Nat×xN)} {fs:List FP} {Q:List FP->St->Prop} {t ty:Nat} {pos:String} {after:Array Edge}
theorem cE (kn:Nat) (hP:uL P TT) {T e n:Nat} {x y:Operand} {ti te:TI} {kx ky:IntKind} {nx ny:Int} {z:AV} (hx:yL (zG tm) x= .s (.int kx nx)) (hy:yL (zG tm) y= .s (.int ky ny)) (hT:TT[T]? =some ti) (hd:ti.d= .slice e) (he:TT[e]? =some te)
  (hb:Nat.ble te.bytes 65536=true) (hp:Nat.ble 1 te.size=true) (hzl:Nat.beq te.zero.length te.size=true) (hz1:te.zero.all (·.oneCell')=true) (hzc:Nat.beq (vU te).cells.length te.size=true) (hzc2:(vU te).cells=te.zero.map .s) (hz:vU te=z)
  (hnx:nx=(n:Int)) (hny:nx<=ny) (hmax:ny<=1073741824) (hm:Nat.blt t m=true) (hnn:(zC h kn).isNone=true)
  {sz:Nat} (hse:te.size=sz) (hk:zZ P F m ops dr rest ⟨(t,.ref kn 0 n)::tm,(kn,.arr sz (List.replicate n z) false)::h⟩ (⟨true,[kn,kn],[]⟩::fs) Q):zZ P F m ops dr (⟨some t,.makeSlice T x y,ty,pos,after,none⟩::rest) ⟨tm,h⟩ fs Q:=by
 subst hse hz;exact uG (nw:=[kn]) (YO hP kn hx hy hT hd he hnx hny hmax hb hp hzl hz1 hzc hzc2) hm (zDn hnn) rfl hk
end
end Av
end Go.Proofs.YtmamjhmoegjapaaGreat
