/- Part 2. -/
import Derived.Test.YtaglbcjljlkjcaaGreatV01
import Derived.Tactics
import Derived.Deep.LoopGhost
import Derived.TacticsIn
import Derived.OrdersIn
import Derived.RangeFuncCalls
import Derived.RangeFuncRecord
import Derived.LoopIn
import Derived.RangeFuncLeaves
import Derived.Orders
namespace Go.Proofs.YtaglbcjljlkjcaaGreat.Av
set_option linter.all false
open List renaming length->ln,range->pg,getD->pi
open Inhabited renaming default->dd
variable {a:Act}{after:Array Edge}{ops:Array Oper}{args:Array Operand}{b:Bool}{Q:Exit->Act->World->Prop}{sl:Fl}{K0 nw r:List Nat}{l:List Oper}{T e f i j k m n off sz t tx ty:Nat}{L:Nat->Bool}{D D' X:Nat->Prop}{op:Op}{o:Oper}{s x y:Operand}{P:Program}{pos:String}{te ti:TI}{c:Value}{w w':World}{β β':uH}{h h':yM}
section
def Uf (β:uH) (b:Nat):Prop:=∃k n,(b,n)∈β k
abbrev GS:Nat:=1000000
def EP (u:Option Nat):Fence:={Fence.wide with round:=u}
structure Fr (K0:List Nat) where
 X:Nat->Prop
 w0:World
 β0:uH
 h0:yM
 hK:∀k b n,(b,n)∈β0 k->k∈K0
 hh:∀k e,h0 k=some e->k∈K0
 ro:Option Nat
 it:Bool
 V:Nat->Prop
 J:Nat->(Nat->Prop)->(Nat->Prop)->World->Prop
 Jst:∀i O X w w' O',J i O X w->w.heap.size<=w'.heap.size->(∀b,b<w.heap.size->¬O b->w'.heap[b]? =w.heap[b]?)->(∀b,O' b->O b\/w.heap.size<=b)->(∀b,O' b->b<w'.heap.size)->w'.os=w.os->w'.tape=w.tape->w'.output=w.output->J i O' X w'
def R8 (h:yM) (k:Nat):xM->Prop
 | .box _=>∃cs,h k=some (.box cs)
 | .obj _=>∃cs,h k=some (.obj cs)
 | .arr sz xs _=>∃u st,h k=some (.arr sz u st)/\xs.length<=ln u
 | .dead=>False
variable {K0:List Nat}
structure gQ (F:Fr K0) (h:yM) (β:uH) (w:World):Prop where
 knd:∀k e,F.h0 k=some e->R8 h k e
 size:F.w0.heap.size<=w.heap.size
 keep:∀b,b<F.w0.heap.size->¬F.V b->(∀k n,(b,n)∉F.β0 k)->w.heap[b]? =F.w0.heap[b]?
 own:∀k b n,(b,n)∈β k->(∃k' n',(b,n')∈F.β0 k')\/F.w0.heap.size<=b
 pas:∀k b n,(b,n)∈F.β0 k->∃n',n<=n'/\(b,n')∈β k
 bs:∀k b n,(b,n)∈F.β0 k->wW w b=wW F.w0 b
 os:w.os=F.w0.os
 tape:w.tape=F.w0.tape
 output:w.output=F.w0.output
def vZ:List (Nat×xM)->Bool
 | []=>true
 |(_,.dead)::_=>false
 |_::r=>vZ r
theorem qL:∀{d:List (Nat×xM)} {k:Nat},vZ d=true->zD d k≠some .dead
 | [],k,_=>by simp[zD]
 |(j,e)::r,k,h=>by
  unfold zD
  cases e with
  |dead=>simp[vZ]at h
  |box cs=>cases Nat.beq k j<;>simp;exact qL (by simpa [vZ]using h)
  |obj cs=>cases Nat.beq k j<;>simp;exact qL (by simpa [vZ]using h)
  |arr a b c=>cases Nat.beq k j<;>simp;exact qL (by simpa [vZ]using h)
def jw (β β':uH):Prop:=∀k b n,(b,n)∈β k->∃u,n<=u/\(b,u)∈β' k
theorem xX.lives (H:jW X h β w) (G:xX X w h β w' h' β') (hd:∀k,h' k≠some .dead):jw β β':=by
 intro k b n z
 cases u:h k with
 |none=>rw[H.off k u]at z;simp at z
 |some e=>
  rcases G.key k e u with h1|h1
  all_goals grind
theorem gQ.goes {F:Fr K0} (K:gQ F h β w) (G:xX X w h β w' h' β') (O:∀k,h' k≠some .dead) (hl:jw β β'):gQ F h' β' w' where
 knd k e he:=by
  have h1:=K.knd k e he
  cases e with
  |dead=>exact h1
  |box cs=>
   obtain⟨C,h2⟩:=h1;exact((G.key k _ h2).resolve_left (O k)).1
  |obj cs=>
   obtain⟨C,h2⟩:=h1;exact((G.key k _ h2).resolve_left (O k)).1
  |arr sz xs st=>
   obtain⟨U,st',h2,E⟩:=h1;obtain⟨B,A,I,S⟩:=((G.key k _ h2).resolve_left (O k)).1;exact⟨B,A,I,zBf E S⟩
 size:=zBf K.size G.size
 keep b hb hi hn:=by
  rw[G.keep b (zBg hb K.size),K.keep b hb hi hn];intro k n u
  rcases K.own k b n u with⟨R,z,h1⟩|h1
  .exact hn _ _ h1
  .omega
 own k b n u:=by
  rcases G.own k b n u with⟨R,z,h1⟩|h1
  .exact K.own R b z h1
  .exact .inr (zBf K.size h1)
 pas k b n u:=by
  obtain⟨z,h1,h2⟩:=K.pas k b n u;obtain⟨M,E,I⟩:=hl k b z h2;exact⟨M,zBf h1 E,I⟩
 bs k b n u:=by
  obtain⟨z,_,h2⟩:=K.pas k b n u;rw[G.bs k b z h2,K.bs k b n u]
 os:=G.os.trans K.os
 tape:=G.tape.trans K.tape
 output:=G.output.trans K.output
def Bx (X:Nat->Prop) (F:Fr K0) (z:List Deferred) (w:World):Prop:=
 ∃u:List Nat,z=u.map (λb=>{target:= .collected b,args:= #[]})/\(F.it=true->u=[])/\u.Nodup/\∀b,b∈u->X b/\F.w0.heap.size<=b/\w.heap[b]? =some (.deferred (some []))
theorem Bx.goes {F:Fr K0} {z:List Deferred} (H:jW X h β w) (D:Bx X F z w) (G:xX X w h β w' h' β'):Bx X F z w':=by
 obtain⟨A,h1,B,h2,C⟩:=D;refine⟨A,h1,B,h2,λb hb=>?_⟩;obtain⟨u,I,M⟩:=C b hb;exact⟨u,I,by rw[G.keep b (H.lt b (.inl u)) λk n E=>H.free k b n E u];exact M⟩
theorem Fr.go {F:Fr K0} (G:xX X w h β w' h' β') (hj:F.J i (Uf β) X w):F.J i (Uf β') X w':=
 F.Jst i _ X w w' _ hj G.size (λb hb z=>G.keep b hb λk n u=>z ⟨k,n,u⟩) (λb ⟨k,n,u⟩=>(G.own k b n u).imp (λ⟨k',n',h⟩=>⟨k',n',h⟩) id) (λb ⟨k,n,u⟩=>G.hok.lt b (.inr ⟨k,n,u⟩)) G.os G.tape G.output
def P3 (F:Fr K0) (X:Nat->Prop):Prop:=(∀b,F.X b->X b)/\∀b,X b->F.X b\/F.w0.heap.size<=b
structure TY (F:Fr K0) (m:Nat) (tm:Nat->AV) (h:yM) (a:Act) (w:World):Prop where
 ex:∃X β,P3 F X/\jW X h β w/\(∀t,yF w (xT X β) h β (tm t) (a.eval (.tmp t)))/\gQ F h β w/\(∀i,tm GS= .gh i->F.J i (Uf β) X w)/\Bx X F a.defers w
 nd:∀k,h k≠some .dead
 gs:m<=GS
 len:a.tmps.size=m
def wV (F:Fr K0) (m:Nat) (st:St):Act->World->Prop:=TY F m (zL st.tm) (zD st.h)
theorem xL (t:Nat) (v:AV) (u:List (Nat×AV)) (j:Nat):zL ((t,v)::u) j=if j=t then v else zL u j:=by simp_all [zL]
theorem xV (t:Nat) (v:xM) (u:List (Nat×xM)) (j:Nat):zD ((t,v)::u) j=if j=t then some v else zD u j:=by simp_all [zD]
theorem vQ:∀(d h:List (Nat×xM)),zD (d++h)=over d (zD h)
 | [],_=>rfl
 |(k,e)::r,h=>by
  funext j
  have u:=congrFun (vQ r h) j;simp only[zDb,over,xV]at *; split
  .rfl
  .exact u
theorem WH.wp {z:Option Nat} {K:Act->World->Prop} {N:Value->World->Prop} (hd:WH P N ((execOp a.eval o).run P w)) (h:∀c w',N c w'->K (a.put o.dst c) w'):o.wpIn (EP z) 0 P a w K Q:=by
 have A:(o.semAt (EP z).round a.eval).run P w=(execOp a.eval o).run P w:=by
  show(o.semAt z a.eval).run P w=_
  cases z with
  |none=>rfl
  | some l=>
   by_cases u:∃c,o.op= .defer c
   .exfalso;obtain⟨c,hc⟩:=u;revert hd;unfold execOp;rw[hc];simp only[Sem.run_bind]
    cases (resolve a.eval c o.type).run P w<;>simp[Result.andThen,WH]
   .rw[Oper.semAt_some l _ _ λc hc=>u ⟨c,hc⟩]
 refine⟨λ_ _=>trivial,?_⟩;rw[A];generalize (execOp a.eval o).run P w=r at hd
 cases r with
 |halt x w'=>exact hd.elim
 | ok n w'=>
  cases n with
  |value c=>exact h _ _ hd
  |skip=>exact h _ _ hd
  |enter f args=>
   refine⟨λhx=>by simp[EP,Fence.wide]at hx,?_⟩;exact callsIn_wide.2 (Calls.mono hd λe w'' ⟨c,he,hn⟩=>by subst he;exact h _ _ hn)
  |_=>exact hd.elim
theorem TY.put {F:Fr K0} {B:Nat->AV} (I:P3 F X) (H:jW X h β w) (hv:∀t,yF w (xT X β) h β (B t) (a.eval (.tmp t))) (K:gQ F h β w) (E:∀i,B GS= .gh i->F.J i (Uf β) X w) (hd:Bx X F a.defers w) (gs:m<=GS) (hl:a.tmps.size=m)
 (G:xX X w h β w' h' β') (A:∀k,h' k≠some .dead) {v:AV} (hc:yF w' (xT X β') h' β' v c) (u:Option Nat) (C:∀d,u=some d->d<m):
  TY F m (λt=>if u=some t then v else B t) h' (a.put u c) w':=by
 refine⟨⟨X,β',I,G.hok,λt=>?_,K.goes G A (G.lives H A),λi hi=>?_,by have:=hd.goes H G;cases u<;>exact this⟩,A,gs,by cases u<;>simp[Act.put,hl]⟩
 .split
  .rename_i z;subst z;have:t<a.tmps.size:=by rw[hl];exact C t Z
   have e:(a.put (some t) c).eval (.tmp t)=c:=by simp[Act.put,Act.eval,this]
   rw[e];exact hc
  .rename_i z;rw[Act.eval_put (λd hd e=>z (by rw[hd];injection e with e;rw[e]))];exact(hv t).evo G.evo
 .rw[hW (λe=>by have:=C GS e;omega)]at hi;exact F.go G (E i hi)
theorem wZ.rel {st:St} {v:AV} {d:List (Nat×xM)} (Y:wZ P st o.op v d r nw) {F:Fr K0} {u:Nat->AV} (H:TY F m u h a w)
 (h1:∀t,t∈fV o.op->u t=zL st.tm t) (h2:∀k,k∈r->h k=zD st.h k) (I:∀k,k∈nw->h k=none) (hd:vZ d=true) (W:∀t,o.dst=some t->t<m) {K:Act->World->Prop} 
 (S:∀C w',TY F m (λt=>if o.dst=some t then v else u t) (over d h) C w'->K C w'):o.wpIn (EP F.ro) 0 P a w K Q:=by
 obtain⟨⟨X,β,U,A,B,E,R,O⟩,nd,gs,hl⟩:=H;refine WH.wp (Y.run X u h h1 h2 I o a w β rfl A B) ?_;rintro c w' ⟨β',G,hc⟩
 have z:∀k,over d h k≠some .dead:=λk=>by
  unfold over;split
  .rename_i e V;intro M;cases M;exact qL hd V
  .exact nd k
 exact S _ _ (TY.put U A B E R O gs hl G z hc o.dst W)
def QR {F:Fence} {a:Act} {w:World} {c:Code} (I:Nat->Act->World->Prop) (M:Nat) (R:I M a w)
 (z:∀k a w,I k a w->c.wpIn F n P (Exit.then (λA w'=>∃G,G<k/\I G A w') Q) a w):(Code.loop c).wpIn F n P Q a w:=by
 refine wpIn_loop (λa w=>∃k,I k a w) (λa w=>leastOf (λk=>I k a w)) ⟨M,R⟩ ?_;intro a w O;refine wpIn_mono (z _ a w (leastOf_spec O).1) ?_;intro e A w' E
 cases e with
 |normal=>
  obtain⟨C,B,u⟩:=E;exact show(∃n,I n A w')/\leastOf (λn=>I n A w')<leastOf (λn=>I n a w)from⟨⟨C,u⟩,Nat.lt_of_le_of_lt ((leastOf_spec ⟨C,u⟩).2 C u) B⟩
 |_=>exact E
structure uG (P:Program) (F:Fr K0) (m:Nat) (c:Code) (st:St) (Q:Exit->St->Prop):Prop where
 run:∀a w,wV F m st a w->c.wpIn (EP F.ro) 0 P (λe a' w'=>∃st',Q e st'/\wV F m st' a' w') a w
def IS (P:Program) (F:Fr K0) (m:Nat) (ops:Array Oper) (l:List Oper) (st:St) (Q:St->Prop):Prop:=
 ∀a w,wV F m st a w->wpListIn (EP F.ro) 0 P ops (λe u w'=>e= .normal/\∃st',Q st'/\wV F m st' u w') l a w
section
variable {P:Program} {F:Fr K0} {m:Nat} {Q:Exit->St->Prop} {st:St}
theorem uG.mono {c:Code} {u:Exit->St->Prop} (h:uG P F m c st Q) (z:∀e s,Q e s->u e s):uG P F m c st u:=
 ⟨λa w H=>Code.wpIn_mono (λ_ _ _ ⟨s,h1,h2⟩=>⟨s,z _ _ h1,h2⟩) (h.run a w H)⟩
def xO (h:Q .normal st):uG P F m .skip st Q:=⟨λ_ _ H=>wpIn_skip ⟨st,h,H⟩⟩
def xP (h:Q .ret st):uG P F m .ret st Q:=⟨λ_ _ H=>wpIn_ret ⟨st,h,H⟩⟩
def wA {id:Nat} (h:Q (.exit id) st):uG P F m (.exit id) st Q:=⟨λ_ _ H=>wpIn_exit ⟨st,h,H⟩⟩
def KT (P:Program) (F:Fr K0) (m:Nat) (y:Code) (Q:Exit->St->Prop):Exit->St->Prop
 | .normal,s=>uG P F m y s Q
 |e,s=>Q e s
def wF {x y:Code} (h:uG P F m x st (KT P F m y Q)):uG P F m (.seq x y) st Q:=⟨λa w H=>
 wpIn_seq (Code.wpIn_mono (λe a' w' ⟨s,h1,h2⟩=>by
  cases e with
  |normal=>exact uG.run h1 a' w' h2
  |_=>exact⟨s,h1,h2⟩) (h.run a w H))⟩
def wL {c:Operand} {x y:Code} {t:Bool} (hc:yW (zL st.tm) c= .s (.bool t)) (h1:t=true->uG P F m x st Q) (h2:t=false->uG P F m y st Q):uG P F m (.cond c x y) st Q:=⟨λa w H=>by
 have hv:a.eval c= .bool t:=by
  obtain⟨⟨_,β,_,_,u,_⟩,_⟩:=H;have:=PN u c;rw[hc]at this;exact this.s_inv
 exact wpIn_cond_split hv (λh=>(h1 h).run a w H) (λh=>(h2 h).run a w H)⟩
def yT {c:Operand} {x y:Code} (hc:yW (zL st.tm) c= .s (.bool true)) (h:uG P F m x st Q):uG P F m (.cond c x y) st Q:=wL hc (λ_=>h) (λh=>by cases h)
def yH {c:Operand} {x y:Code} (hc:yW (zL st.tm) c= .s (.bool false)) (h:uG P F m y st Q):uG P F m (.cond c x y) st Q:=wL hc (λh=>by cases h) (λ_=>h)
def Ax (id:Nat) (Q:Exit->St->Prop):Exit->St->Prop
 | .exit u,s=>bif Nat.beq u id then Q .normal s else Q (.exit u) s
 |e,s=>Q e s
def xE {id:Nat} {c:Code} (h:uG P F m c st (Ax id Q)):uG P F m (.block id c) st Q:=⟨λa w H=>
 wpIn_block (Code.wpIn_mono (λe a' w' ⟨s,h1,h2⟩=>by
  cases e with
  |exit z=>
   simp only[Exit.inBlock];split
   .rename_i u;subst u;simp only[Ax,Jf,zBk]at h1;exact⟨s,h1,h2⟩
   .rename_i u;simp only[Ax,JK u,zB9]at h1;exact⟨s,h1,h2⟩
  |_=>exact⟨s,h1,h2⟩) (h.run a w H))⟩
def Ya {id:Nat} (h:IS P F m l.toArray l st (Q .normal)):uG P F m (.region id l.toArray false) st Q:=⟨λa w H=>
 Code.wpIn_mono (λe a' w' ⟨he,s,h1,h2⟩=>by subst he;exact⟨s,h1,h2⟩) (wpIn_region_lit (h a w H))⟩
end
end
mutual
def AV.refs:AV->List Nat
 | .ref k _ _| .ptr k _ _=>[k]
 | .agg cs| .fn _ cs| .tup cs=>jH cs
 |_=>[]
def jH:List AV->List Nat
 | []=>[]
 |v::r=>v.refs++jH r
end
mutual
def AV.nosl:AV->Bool
 | .sl _ _| .slc _ _| .fp _ _ _| .fm _ _=>false
 | .agg cs| .fn _ cs| .tup cs=>NB cs
 |_=>true
def NB:List AV->Bool
 | []=>true
 |v::r=>v.nosl&&NB r
end
mutual
def qC (K:List Nat) (h:yM):AV->AV
 | .ref k off len=>bif K.contains k then .ref k off len else match h k with
  |some (.arr _ xs fl)=>bif fl.nest then .bot else .sl false ((xs.drop off).take len)
  |_=> .bot
 | .ptr k i off=>bif K.contains k then .ptr k i off else .bot
 | .agg cs=> .agg (wS K h cs)
 | .fn f cs=> .fn f (wS K h cs)
 | .tup cs=> .tup (wS K h cs)
 |v=>v
def wS (K:List Nat) (h:yM):List AV->List AV
 | []=>[]
 |v::r=>qC K h v::wS K h r
end
mutual
def wR (K:List Nat) (h:yM):AV->AV
 | .ref k off len=>bif K.contains k then .ref k off len else match h k with
  |some (.arr _ xs fl)=>bif fl.nest then(bif wM (wS K h xs)then .sl false (((wS K h xs).drop off).take len)else .bot)else .sl false ((xs.drop off).take len)
  |_=> .bot
 | .ptr k i off=>bif K.contains k then .ptr k i off else .bot
 | .agg cs=> .agg (qG K h cs)
 | .fn f cs=> .fn f (qG K h cs)
 | .tup cs=> .tup (qG K h cs)
 |v=>v
def qG (K:List Nat) (h:yM):List AV->List AV
 | []=>[]
 |v::r=>wR K h v::qG K h r
end
mutual
def ZA:AV->AV
 | .s v=>match v with
  | .slice none 0 0=> .sl false []
  |v=> .s v
 | .sl _ xs=> .sl false xs
 | .agg cs=> .agg (wkL cs)
 | .fn f cs=> .fn f (wkL cs)
 | .tup cs=> .tup (wkL cs)
 |v=>v
def wkL:List AV->List AV
 | []=>[]
 |v::r=>ZA v::wkL r
end
theorem wT:∀{cs:List AV} {i:Nat} {v:AV} {k:Nat},cs[i]? =some v->k∈v.refs->k∈jH cs
 | [],_,_,_,h,_=>by simp at h
 |x::r,0,v,k,h,hk=>by simp at h;subst h;simp[jH,hk]
 |x::r,i+1,v,k,h,hk=>by simp[jH,wT (show r[i]? =some v by simpa using h) hk]
variable {v xv:AV}{caps cs xs ys:List AV}{tm:Nat->AV}
theorem fJ:∀{cs:List AV} {i:Nat} {v:AV},NB cs=true->cs[i]? =some v->v.nosl=true
 | [],_,_,_,h=>by simp at h
 |x::r,0,v,hk,h=>by simp at h;subst h;simp[NB]at hk;exact hk.1
 |x::r,i+1,v,hk,h=>by simp[NB]at hk;exact fJ hk.2 NJ
theorem bV (K:List Nat) (h:yM):∀(cs:List AV) (i:Nat),(qG K h cs)[i]? =(cs[i]?).map (wR K h)
 | [],i=>by simp[qG]
 |x::r,0=>by simp[qG]
 |x::r,i+1=>by simp[qG,bV K h r i]
theorem bC (K:List Nat) (h:yM):∀(cs:List AV) (i:Nat),(wS K h cs)[i]? =(cs[i]?).map (qC K h)
 | [],i=>by simp[wS]
 |x::r,0=>by simp[wS]
 |x::r,i+1=>by simp[wS,bC K h r i]
theorem qW (K:List Nat) (h:yM):∀(cs:List AV),(wS K h cs).length=ln cs
 | []=>rfl
 |x::r=>by simp[wS,qW K h r]
theorem ZF (h:v.isAgg=false):v.cells=[v]:=by cases v<;>first|rfl|(simp[AV.isAgg]at h)
def NC (K:List Nat) (h:yM) (x:AV):(qC K h x).cells=wS K h x.cells:=by
 cases x with
 |agg cs=>rfl
 | ref k off len=>
  apply ZF;unfold qC
  cases K.contains k with
  |true=>rfl
  | false=>
   simp only[zB9]
   rcases h k with _|(_|⟨_,_,fl⟩|_|_)
   .rfl
   .rfl
   .dsimp only
    cases fl.nest<;>rfl
   .rfl
   .rfl
 |ptr k i off=>apply ZF;unfold qC;cases K.contains k<;>rfl
 |_=>rfl
def ND (K:List Nat) (h:yM) (x:AV):(wR K h x).cells=qG K h x.cells:=by
 cases x with
 |agg cs=>rfl
 | ref k off len=>
  apply ZF;unfold wR
  cases K.contains k with
  |true=>rfl
  | false=>
   simp only[zB9]
   rcases h k with _|(_|⟨_,xs,fl⟩|_|_)
   .rfl
   .rfl
   .dsimp only
    cases fl.nest with
    |false=>rfl
    |true=>
     simp only[zBk]
     cases wM (wS K h xs)<;>rfl
   .rfl
   .rfl
 |ptr k i off=>apply ZF;unfold wR;cases K.contains k<;>rfl
 |_=>rfl
theorem QA {x:AV} (h:x.nokey=true):wM x.cells=true:=by
 by_cases u:x.isAgg=true
 .cases x<;>first
   |exact h
   |(simp[AV.isAgg]at u)
 all_goals grind [wM,ZF]
theorem vS (K:List Nat) (h:yM):∀(cs:List AV),(qG K h cs).length=ln cs
 | []=>rfl
 |x::r=>by simp[qG,vS K h r]
theorem Wa:∀(cs:List AV) (i:Nat),(wkL cs)[i]? =(cs[i]?).map ZA
 | [],i=>by simp[wkL]
 |x::r,0=>by simp[wkL]
 |x::r,i+1=>by simp[wkL,Wa r i]
theorem dN:∀(cs:List AV),(wkL cs).length=ln cs
 | []=>rfl
 |x::r=>by simp[wkL,dN r]
theorem Bc:∀cs:List AV,wkL cs=cs.map ZA
 | []=>rfl
 |x::r=>by simp[wkL,Bc r]
theorem xF.wk :∀{v:AV} {c:Value},xF w D v c->xF w D (ZA v) c:=by
 intro v c hv
 induction hv with
 |bot c=>exact .bot c
 |gh n c=>exact .gh n c
 |s v=>
  unfold ZA;split
  .exact .nil _ _
  .exact .s _
 | agg cs c hl h1 _ C=>
  exact .agg _ c (by rw[dN];exact hl) h1 λi v hv=>by
   grind [ZA,Wa,Option.map_eq_some_iff]
 |nil a cap=>exact .nil _ _
 |nil1 a cap=>exact .nil _ _
 |sl E xs b o sz cap f hx u hc hh _=>exact .sl false xs b o sz cap f hx u hc hh
 |slc cap xs b o sz f u hc hh _=>exact .slc cap xs b o sz f u hc hh
 |fp xs b o sz i off f u hi z hh _=>exact .fp xs b o sz i off f u hi z hh
 |fm B p b x z hl hd hx A=>exact .fm B p b x z hl hd hx A
theorem yF.wk :∀{v:AV} {c:Value},yF w D h β v c->yF w D h β (ZA v) c:=by
 intro v c hv
 have z:∀{cs:List AV} {c:Array Value} (u:∀(i:Nat) v,cs[i]? =some v->yF w D h β (ZA v) (c.getD i undef)) (i:Nat) v,(wkL cs)[i]? =some v->yF w D h β v (c.getD i undef):=λu i v hv=>by
  rw[Wa,zAo]at hv
  grind
 induction hv with
 |fz v c B=>exact .fz _ _ B.wk
 |agg cs c hl h1 _ u=>exact .agg _ c (by rw[dN];exact hl) h1 (z u)
 |fn f caps c hl _ u=>exact .fn f _ c (by rw[dN];exact hl) (z u)
 |tup G c hl _ u=>exact .tup _ c (by rw[dN];exact hl) (z u)
 |dref k off len c hk h1=>exact .dref _ _ _ _ hk h1
 |dptr k i off c hk h1=>exact .dptr _ _ _ _ hk h1
 |ref k off len sz xs st b n cap hk hb A hc E=>exact .ref k off len sz xs st b n cap hk hb A hc E
 |ref0 k off sz xs st a hk A=>exact .ref0 k off sz xs st a hk A
 |pbox k off cs b n hk hb=>exact .pbox k off cs b n hk hb
 |parr k i off sz xs st b n hk hb hi C=>exact .parr k i off sz xs st b n hk hb hi C
theorem xF.free :∀{v:AV} {c:Value},xF w D v c->v.nosl=true->xF w D' v c:=by
 intro v c hv
 induction hv with
 |bot c=>exact λ_=> .bot c
 |gh n c=>exact λ_=> .gh n c
 |s v=>exact λ_=> .s v
 |agg cs c hl h1 _ z=>exact λu=> .agg cs c hl h1 λi v hv=>z i v hv (fJ (by simpa [AV.nosl]using u) hv)
 |_=>intro u;simp[AV.nosl]at u
theorem yF.fz0 (H:jW X h β w) {K:List Nat} 
 (hk:∀k,k∈K->∀e,h k=some e->match e with| .box _=>∃C,h' k=some (.box C)| .obj _=>∃C,h' k=some (.obj C)| .arr sz xs _=>∃A st',h' k=some (.arr sz A st')/\xs.length=ln A| .dead=>h' k=some .dead) (hβ:∀k,k∈K->β' k=β k) (hD:∀b,b<w.heap.size->¬xT X β b->¬D' b)
 (hv:yF w (xT X β) h β v c):(∀k,k∈v.refs->k∈K\/∀b n,(b,n)∈β k->¬D' b)->yF w D' h' β' (qC K h v) c:=by
 have S:∀{cs:List AV} {c:Array Value} (I:∀(i:Nat) v,cs[i]? =some v->(∀k,k∈v.refs->k∈K\/∀b n,(b,n)∈β k->¬D' b)->yF w D' h' β' (qC K h v) (c.getD i undef)) (B:∀k,k∈jH cs->k∈K\/∀b n,(b,n)∈β k->¬D' b)
   (i:Nat) v,(wS K h cs)[i]? =some v->yF w D' h' β' v (c.getD i undef):=λI B i v hv=>by
  rw[bC,zAo]at hv;obtain⟨u,hu,rfl⟩:=hv;exact I i u hu λk hk=>B k (wT hu hk)
 have E:∀{v c},xF w (xT X β) v c->xF w D' v c:=λY=>Y.evo (zAe _) λb hb hd=>⟨rfl,hD b hb hd⟩
 have z:∀{k},K.contains k=true↔k∈K:=λ{k}=>by simp
 induction hv with
 | fz v c Y=>
  intro _
  have:xF w D' (qC K h v) c:=by
   have h2:∀{v c},xF w (xT X β) v c->xF w D' (qC K h v) c:=by
    intro v c Y
    induction Y with
    |bot c=>exact .bot c
    |gh n c=>exact .gh n c
    |s v=>exact .s v
    | agg cs c hl h1 _ I=>
     exact .agg _ c (by rw[qW];exact hl) h1 λi v hv=>by
      rw[bC,zAo]at hv
      grind
    |nil a cap=>exact .nil _ _
    |nil1 a cap=>exact .nil1 _ _
    |sl nn xs b o sz cap f hx U hc hh _=>exact E (.sl nn xs b o sz cap f hx U hc hh)
    |slc cap xs b o sz f U hc hh _=>exact E (.slc cap xs b o sz f U hc hh)
    |fp xs b o sz i off f U hi ho hh _=>exact E (.fp xs b o sz i off f U hi ho hh)
    |fm ob p b x ho hl hd hx hp=>exact E (.fm ob p b x ho hl hd hx hp)
   exact h2 Y
  exact .fz _ _ this
 |agg cs c hl h1 _ I=>exact λB=> .agg _ c (by rw[qW];exact hl) h1 (S I B)
 |fn f caps c hl _ I=>exact λB=> .fn f _ c (by rw[qW];exact hl) (S I B)
 |tup vs c hl _ I=>exact λB=> .tup _ c (by rw[qW];exact hl) (S I B)
 |dref k off len c hk' h1=>
  intro B;unfold qC
  cases hc:K.contains k with
  |true=>exact .dref _ _ _ _ (hk k (z.1 hc) _ hk') h1
  |false=>simp only[hk',zB9];exact .fz _ _ (.bot _)
 |dptr k i off c hk' h1=>
  intro B;unfold qC
  cases hc:K.contains k with
  |true=>exact .dptr _ _ _ _ (hk k (z.1 hc) _ hk') h1
  |false=>exact .fz _ _ (.bot _)
 | ref k off len sz xs st b n cap hk' hb hn W hs=>
  intro B;unfold qC
  cases hc:K.contains k with
  |true=>obtain⟨A,st',G,_⟩:=hk k (z.1 hc) _ hk';exact .ref k off len sz A st' b n cap G (by rw[hβ k (z.1 hc)];exact hb) hn W hs
  | false=>
   simp only[hk',zB9]
   cases R:st.nest with
   |true=>exact .fz _ _ (.bot _)
   |false=>
   simp only[zB9];have ag:¬k∈K:=λh=>by rw[z.2 h]at hc;cases hc
   have O:=(B k (by simp[AV.refs])).resolve_left ag;obtain⟨g1,g2,g3,g4,g5,f,g6,g7,g8⟩:=H.ent k _ hk'
   have ap:n<=ln xs:=by
    cases hbk:β k with
    |nil=>rw[hbk]at hb;simp at hb
    |cons q rr=>
     obtain⟨b0,n0⟩:=q;obtain⟨e1,_,e3⟩:=g5 b0 n0 rr hbk;rw[hbk]at hb;simp at hb
     rcases hb with⟨_,rfl⟩|hb
     .omega
     .exact zEq (e3 b n hb)
   have hl:((xs.drop off).take len).length=len:=by simp;omega
   by_cases hz:len=0
   .subst hz;simp only[zDe];exact .fz _ _ (.nil _ _)
   .have V:∀(i:Nat) y,((xs.drop off).take len)[i]? =some y->xs[off+i]? =some y:=λi y M=>by
     rw[zB0]at M;split at M
     .rwa [zCe]at M
     .cases M
    obtain⟨cc,el,e1,e2,e3,_⟩:=g8 b n hb
    have:=xF.sl (w:=w) (D:=D') false ((xs.drop off).take len) b (off*sz) sz cap (λi j=>f (off+i) j) (λh0=>hz (by rw[<-hl,h0];rfl))
     ⟨H.lt b (.inr ⟨k,n,hb⟩),O b n hb,g1,by rw[hl];omega,λi y M=>g4 _ y (V i y M),λi j hi hj=>by
      rw[hl]at hi;rw[uI e1,show off*sz+i*sz+j=(off+i)*sz+j by rw[zBl]]
      exact e3 _ _ (by omega) hj,λi j hi hj=>g7 _ _ rd hj⟩ (by rw[hl];exact W) (λi y j v M hv=>E (g6.toF R _ y j v (V i y M) hv))
    rw[hl]at this;exact .fz _ _ this
 | ref0 k off sz xs st a hk' hn=>
  intro B;unfold qC
  cases hc:K.contains k with
  |true=>obtain⟨A,st',G,ac⟩:=hk k (z.1 hc) _ hk';exact .ref0 k off sz A st' a G (ac▸hn)
  |false=>
   simp only[hk',zB9,zDe]
   cases st.nest with
   |true=>exact .fz _ _ (.bot _)
   |false=>exact .fz _ _ (.nil _ _)
 | pbox k off cs b n hk' hb=>
  intro B;unfold qC
  cases hc:K.contains k with
  |true=>
   obtain⟨C,h2⟩:=hk k (z.1 hc) _ hk';exact .pbox k off C b n h2 (by rw[hβ k (z.1 hc)];exact hb)
  |false=>exact .fz _ _ (.bot _)
 |parr k i off sz xs st b n hk' hb hi ho=>
  intro B;unfold qC
  cases hc:K.contains k with
  |true=>obtain⟨A,st',G,_⟩:=hk k (z.1 hc) _ hk';exact .parr k i off sz A st' b n G (by rw[hβ k (z.1 hc)];exact hb) hi ho
  |false=>exact .fz _ _ (.bot _)
theorem yF.frz (H:jW X h β w) {K:List Nat} 
 (hk:∀k,k∈K->∀e,h k=some e->match e with| .box _=>∃E,h' k=some (.box E)| .obj _=>∃E,h' k=some (.obj E)| .arr sz xs _=>∃C st',h' k=some (.arr sz C st')/\xs.length=ln C| .dead=>h' k=some .dead) (hβ:∀k,k∈K->β' k=β k) (hD:∀b,b<w.heap.size->¬xT X β b->¬D' b) (Y:∀k,¬k∈K->∀b n,(b,n)∈β k->¬D' b)
 (hv:yF w (xT X β) h β v c):yF w D' h' β' (wR K h v) c:=by
 have U:∀{cs:List AV} {c:Array Value} (O:∀(i:Nat) v,cs[i]? =some v->yF w D' h' β' (wR K h v) (c.getD i undef))
   (i:Nat) v,(qG K h cs)[i]? =some v->yF w D' h' β' v (c.getD i undef):=λO i v hv=>by
  rw[bV,zAo]at hv;obtain⟨u,hu,rfl⟩:=hv;exact O i u hu
 have G:∀{v c},xF w (xT X β) v c->xF w D' v c:=λW=>W.evo (zAe _) λb hb hd=>⟨rfl,hD b hb hd⟩
 have z:∀{k},K.contains k=true↔k∈K:=λ{k}=>by simp
 induction hv with
 | fz v c W=>
  have:xF w D' (wR K h v) c:=by
   have h2:∀{v c},xF w (xT X β) v c->xF w D' (wR K h v) c:=by
    intro v c W
    induction W with
    |bot c=>exact .bot c
    |gh n c=>exact .gh n c
    |s v=>exact .s v
    | agg cs c hl h1 _ O=>
     exact .agg _ c (by rw[vS];exact hl) h1 λi v hv=>by
      rw[bV,zAo]at hv
      grind
    |nil a cap=>exact .nil _ _
    |nil1 a cap=>exact .nil1 _ _
    |sl nn xs b o sz cap f hx V hc hh _=>exact G (.sl nn xs b o sz cap f hx V hc hh)
    |slc cap xs b o sz f V hc hh _=>exact G (.slc cap xs b o sz f V hc hh)
    |fp xs b o sz i off f V hi ho hh _=>exact G (.fp xs b o sz i off f V hi ho hh)
    |fm ob p b x ho hl hd hx hp=>exact G (.fm ob p b x ho hl hd hx hp)
   exact h2 W
  exact .fz _ _ this
 |agg cs c hl h1 _ O=>exact .agg _ c (by rw[vS];exact hl) h1 (U O)
 |fn f caps c hl _ O=>exact .fn f _ c (by rw[vS];exact hl) (U O)
 |tup vs c hl _ O=>exact .tup _ c (by rw[vS];exact hl) (U O)
 |dref k off len c hk' h1=>
  unfold wR
  cases hc:K.contains k with
  |true=>exact .dref _ _ _ _ (hk k (z.1 hc) _ hk') h1
  |false=>simp only[hk',zB9];exact .fz _ _ (.bot _)
 |dptr k i off c hk' h1=>
  unfold wR
  cases hc:K.contains k with
  |true=>exact .dptr _ _ _ _ (hk k (z.1 hc) _ hk') h1
  |false=>exact .fz _ _ (.bot _)
 | ref k off len sz xs st b n cap hk' hb hn R hs=>
  unfold wR
  cases hc:K.contains k with
  |true=>obtain⟨C,st',B,_⟩:=hk k (z.1 hc) _ hk';exact .ref k off len sz C st' b n cap B (by rw[hβ k (z.1 hc)];exact hb) hn R hs
  | false=>
   simp only[hk',zB9];have ap:¬k∈K:=λh=>by rw[z.2 h]at hc;cases hc
   have M:=Y k ap;obtain⟨g1,g2,g3,g4,g5,f,g6,g7,g8⟩:=H.ent k _ hk'
   have ax:n<=ln xs:=by
    cases hbk:β k with
    |nil=>rw[hbk]at hb;simp at hb
    |cons q rr=>
     obtain⟨b0,n0⟩:=q;obtain⟨e1,_,e3⟩:=g5 b0 n0 rr hbk;rw[hbk]at hb;simp at hb
     rcases hb with⟨_,rfl⟩|hb
     .omega
     .exact zEq (e3 b n hb)
   cases S:st.nest with
   | true=>
    simp only[zBk]
    cases ar:wM (wS K h xs)with
    |false=>exact .fz _ _ (.bot _)
    |true=>
    simp only[zBk];have ac:(wS K h xs).length=ln xs:=qW K h xs;have hl:(((wS K h xs).drop off).take len).length=len:=by simp[ac];omega
    by_cases hz:len=0
    .subst hz;simp only[zDe];exact .fz _ _ (.nil _ _)
    have I:∀(i:Nat) y,(((wS K h xs).drop off).take len)[i]? =some y->∃x,xs[off+i]? =some x/\y=qC K h x:=λi y A=>by
     rw[zB0]at A;split at A
     .rw[zCe,bC,zAo]at A;obtain⟨x,hx,rfl⟩:=A;exact⟨x,hx,rfl⟩
     .cases A
    obtain⟨cc,el,e1,e2,e3,_⟩:=g8 b n hb
    have:=xF.sl (w:=w) (D:=D') false (((wS K h xs).drop off).take len) b (off*sz) sz cap (λi j=>f (off+i) j) (λh0=>hz (by rw[<-hl,h0];rfl))
     ⟨H.lt b (.inr ⟨k,n,hb⟩),M b n hb,g1,by rw[hl];omega,λi y A=>by
      obtain⟨x,hx,rfl⟩:=I i y A;rw[NC,qW]
      exact g4 _ x hx,λi j hi hj=>by
      rw[hl]at hi;rw[uI e1,show off*sz+i*sz+j=(off+i)*sz+j by rw[zBl]]
      exact e3 _ _ (by omega) hj,λi j hi hj=>g7 _ _ rd hj⟩ (by rw[hl];exact R) (λi y j v A hv=>by
      obtain⟨x,hx,rfl⟩:=I i y A;have av:(qC K h x).nokey=true:=kZ ar (show(wS K h xs)[off+i]? =some (qC K h x) by rw[bC,hx];rfl);have au:v.nokey=true:=kZ (QA av) hv;rw[NC,bC,zAo]at hv;obtain⟨u,hu,rfl⟩:=hv
      exact(yF.fz0 H hk hβ hD (g6.toV _ x j u hx hu) λk' _=>by
       by_cases B:k'∈K
       .exact .inl B
       .exact .inr (Y k' B)).toF au)
    rw[hl]at this;exact .fz _ _ this
   |false=>
   simp only[zB9];have hl:((xs.drop off).take len).length=len:=by simp;omega
   by_cases hz:len=0
   .subst hz;simp only[zDe];exact .fz _ _ (.nil _ _)
   .have I:∀(i:Nat) y,((xs.drop off).take len)[i]? =some y->xs[off+i]? =some y:=λi y A=>by
     rw[zB0]at A;split at A
     .rwa [zCe]at A
     .cases A
    obtain⟨cc,el,e1,e2,e3,_⟩:=g8 b n hb
    have:=xF.sl (w:=w) (D:=D') false ((xs.drop off).take len) b (off*sz) sz cap (λi j=>f (off+i) j) (λh0=>hz (by rw[<-hl,h0];rfl))
     ⟨H.lt b (.inr ⟨k,n,hb⟩),M b n hb,g1,by rw[hl];omega,λi y A=>g4 _ y (I i y A),λi j hi hj=>by
      rw[hl]at hi;rw[uI e1,show off*sz+i*sz+j=(off+i)*sz+j by rw[zBl]]
      exact e3 _ _ (by omega) hj,λi j hi hj=>g7 _ _ rd hj⟩ (by rw[hl];exact R) (λi y j v A hv=>G (g6.toF S _ y j v (I i y A) hv))
    rw[hl]at this;exact .fz _ _ this
 | ref0 k off sz xs st a hk' hn=>
  unfold wR
  cases hc:K.contains k with
  |true=>obtain⟨C,st',B,ag⟩:=hk k (z.1 hc) _ hk';exact .ref0 k off sz C st' a B (ag▸hn)
  | false=>
   simp only[hk',zB9,zDe]
   cases st.nest with
   |true=>
    simp only[zBk]
    cases wM (wS K h xs)with
    |true=>exact .fz _ _ (.nil _ _)
    |false=>exact .fz _ _ (.bot _)
   |false=>exact .fz _ _ (.nil _ _)
 | pbox k off cs b n hk' hb=>
  unfold wR
  cases hc:K.contains k with
  |true=>
   obtain⟨E,h2⟩:=hk k (z.1 hc) _ hk';exact .pbox k off E b n h2 (by rw[hβ k (z.1 hc)];exact hb)
  |false=>exact .fz _ _ (.bot _)
 |parr k i off sz xs st b n hk' hb hi ho=>
  unfold wR
  cases hc:K.contains k with
  |true=>obtain⟨C,st',B,_⟩:=hk k (z.1 hc) _ hk';exact .parr k i off sz C st' b n B (by rw[hβ k (z.1 hc)];exact hb) hi ho
  |false=>exact .fz _ _ (.bot _)
def qD (K:List Nat) (h:yM):xM->xM
 | .box cs=> .box (qG K h cs)
 | .obj cs=> .obj cs
 | .arr sz xs fl=>bif fl.nest then .arr sz (qG K h xs) ⟨fl.stale,!wM (qG K h xs)⟩else .arr sz xs fl
 | .dead=> .dead
def fK (K:List Nat) (h:yM) (sz:Nat) (xs:List AV) (fl:Fl):∃u z,qD K h (.arr sz xs fl)= .arr sz u z/\u.length=ln xs:=by
 cases A:fl.nest with
 |true=>exact⟨_,_,by simp only[qD,A,zBk];rfl,vS K h xs⟩
 |false=>exact⟨_,_,by simp only[qD,A,zB9];rfl,rfl⟩
theorem Ac {K:List Nat} (hv:wR K h v= .gh i):v= .gh i:=by
 cases v<;>first
  |exact hv
  |(simp[wR]at hv;done)
  |skip
 all_goals
  exfalso;rename_i k _ _;unfold wR at hv
  grind
def vD (K:List Nat) (h:yM):List (Nat×xM)
 :=K.filterMap λk=>(h k).map λe=>(k,qD K h e)
def restr (K u:List Nat) (st:St):St:=⟨u.map λt=>(t,wR K (zD st.h) (zL st.tm t)),vD K (zD st.h)⟩
theorem wI (K:List Nat) (h:yM) (k:Nat):zD (vD K h) k=if k∈K then(h k).map (qD K h)else none:=by
 unfold vD;generalize qD K h=g
 induction K with
 |nil=>rfl
 | cons j K u=>
  rw[List.filterMap_cons]
  cases hj:h j with
  |none=>
   grind
  |some e=>
   simp only[zB8,xV,u,zBx]
   grind
theorem dO (K u:List Nat) (st:St) (t:Nat):zL (restr K u st).tm t=if t∈u then wR K (zD st.h) (zL st.tm t)else .bot:=by
 unfold restr;dsimp only;generalize wR K (zD st.h)=g
 induction u with
 |nil=>rfl
 |cons j u z=>
  grind [zL,restr,wR,zD,xL]
theorem jW.restr (H:jW X h β w) (K:List Nat):
  jW X (zD (vD K h)) (λk=>if k∈K then β k else []) w/\∀v c,yF w (xT X β) h β v c->yF w (xT X λk=>if k∈K then β k else []) (zD (vD K h)) (λk=>if k∈K then β k else []) (wR K h v) c:=by
 have A:∀b,xT X (λk=>if k∈K then β k else []) b->xT X β b:=λb hd=>by
  rcases hd with hx|⟨k,n,z⟩
  .exact .inl hx
  ·(try dsimp only at z)
   split at z
   .exact .inr ⟨k,n,z⟩
   .simp at z
 have hv:∀v c,yF w (xT X β) h β v c->yF w (xT X λk=>if k∈K then β k else []) (zD (vD K h)) (λk=>if k∈K then β k else []) (wR K h v) c:=λv c hv=>by
  refine yF.frz H (K:=K) (λk hk e B=>?_) (λk hk=>by simp[hk]) (λb _ hd h'=>hd (A b h')) (λk hk b n z=>?_) hv
  .rw[wI,Os hk,B]
   cases e with
   |box cs=>exact⟨_,rfl⟩
   |obj cs=>exact⟨_,rfl⟩
   |arr sz xs fl=>
    cases I:fl.nest with
    |true=>exact⟨_,_,by simp only[zB8,qD,I,zBk];rfl,(vS K h xs).symm⟩
    |false=>exact⟨_,_,by simp only[zB8,qD,I,zB9];rfl,rfl⟩
   |dead=>rfl
  .rintro(hx|⟨k',n',C⟩)
   .exact H.free k b n z hx
   ·(try dsimp only at C)
    split at C
    .rename_i hk';exact hk (H.disj k k' b n n' z C▸hk')
    .simp at C
 have ef:∀{v c},xF w (xT X β) v c->xF w (xT X λk=>if k∈K then β k else []) v c:=λhf=>hf.evo (zAe _) λb _ hd=>⟨rfl,λh'=>hd (A b h')⟩
 refine⟨⟨λk e B=>?_,λk B=>?_,λk k' b n n' h1 h2=>?_,λk b n z=>?_,λb hd=>H.lt b (A b hd)⟩,hv⟩
 .rw [wI]at B;split at B
  .rename_i hk;rw[zAo]at B;obtain⟨U,R,rfl⟩:=B;have:=H.ent k U R
   cases U with
   |dead=>show(if k∈K then β k else [])=[];rw[Os hk];exact this
   |box cs=>
    obtain⟨b,c,el,h1,h2,h3,h4,h5⟩:=this;refine⟨b,c,el,by(try dsimp only);rw[Os hk];exact h1,h2,by rw[vS];exact h3,h4,λi v hi=>?_⟩;rw[bV,zAo]at hi;obtain⟨u,S,rfl⟩:=hi;exact hv u _ (h5 i u S)
   |obj cs=>
    exact⟨by(try dsimp only);rw[Os hk];exact this.1,this.2⟩
   | arr sz xs st=>
    obtain⟨V,W,Y,g4,g5,f,g6,g7,g8⟩:=this
    cases I:st.nest with
    |false=>
     simp only[qD,I,zB9];exact⟨V,W,by(try dsimp only);rw[Os hk];exact Y,g4,by(try dsimp only);rw[Os hk];exact g5,f,.ofF λi x j v hx E=>ef (g6.toF I i x j v hx E),g7,by(try dsimp only);rw[Os hk];exact g8⟩
    | true=>
     simp only[qD,I,zBk];have hl:=vS K h xs
     have M:∀(i:Nat) y,(qG K h xs)[i]? =some y->∃x,xs[i]? =some x/\y=wR K h x:=λi y E=>by
      rw[bV,zAo]at E;obtain⟨x,hx,rfl⟩:=E;exact⟨x,hx,rfl⟩
     refine⟨V,by rw[hl];exact W,λO=>by(try dsimp only);rw[Os hk];exact Y (λh1=>O (by rw[h1];rfl)),λi y E=>?_,by(try dsimp only);rw[Os hk,hl];exact g5,f,λi y j v E G=>?_,by rw[hl];exact g7,by(try dsimp only);rw[Os hk];exact g8⟩
     .obtain⟨x,hx,rfl⟩:=M i y E;rw[ND,vS];exact g4 i x hx
     .obtain⟨x,hx,rfl⟩:=M i y E
      have hR:yF w (xT X λk=>if k∈K then β k else []) (zD (vD K h)) (λk=>if k∈K then β k else []) v (f i j):=by
       rw[ND,bV,zAo]at G;obtain⟨u,S,rfl⟩:=G;exact hv u _ (g6.toV i x j u hx S)
      exact⟨hR,λO=>hR.toF (kZ (QA (kZ (by simpa using O) E)) G)⟩
  .cases B
 ·(try dsimp only)
  split
  .rename_i hk;rw[wI,Os hk]at B
   cases hk':h k with
   |none=>exact H.off k hk'
   |some e=>simp[hk']at B
  .rfl
 ·(try dsimp only at h1 h2)
  split at h1<;>split at h2
  .exact H.disj _ _ _ _ _ h1 h2
  .simp at h2
  all_goals simp at h1
 ·(try dsimp only at z)
  split at z
  .exact H.free k b n z
  .simp at z
theorem wV.restrM {F:Fr K0} {st:St} (R:wV F m st a w) (K W:List Nat) (hK:K0.all (K.contains ·)=true) {A:Nat->AV} (hg:A GS=zL (restr K W st).tm GS)
 (ht:∀t,A t=zL (restr K W st).tm t\/∃k b p,zD st.h k=some (.obj (b,p))/\¬k∈K/\zL st.tm t= .s (.map (some b))/\A t= .fm none p):TY F m A (zD (restr K W st).h) a w:=by
 obtain⟨⟨X,β,hX,H,Ht,z,hJ,hD⟩,nd,gs,hl⟩:=R;obtain⟨H',hv⟩:=H.restr K;refine⟨⟨X,_,hX,H',λt=>?_,⟨λk e I=>?_,z.size,z.keep,λk b n u=>?_,λk b n u=>?_,z.bs,z.os,z.tape,z.output⟩,λi hi=>?_,hD⟩,λk=>?_,gs,hl⟩
 .rcases ht t with e|⟨k,b,p,h1,h2,S,C⟩
  .rw[e,dO];split
   .exact hv _ _ (Ht t)
   .exact .fz _ _ (.bot _)
  .obtain⟨g1,x,g2,g3⟩:=H.ent k _ h1;have hc:=Ht t;rw[S]at hc;rw[C]
   have e:a.eval (.tmp t)= .map (some b):=by
    generalize a.eval (.tmp t)=c at hc
    cases hc with
    |fz _ _ hf=>cases hf;rfl
   rw[e];have u:(b,0)∈β k:=by rw[g1];exact zA8.2 Z
   refine .fz _ _ (.fm none p b x (λn h=>by cases h) (H.lt b (.inr ⟨k,0,u⟩)) (λhd=>?_) g2 g3)
   rcases hd with hx|⟨j,n,hj⟩
   .exact H.free k b 0 u hx
   ·(try dsimp only at hj)
    split at hj
    .rename_i E;rw[<-H.disj k j b 0 n u hj]at E;exact h2 E
    .simp at hj
 .have hk:k∈K:=by
   have:=zAm.1 hK k (F.hh k e I);simpa using this
  have h1:=z.knd k e I;have U:∀O,zD st.h k=some O->zD (vD K (zD st.h)) k=some (qD K (zD st.h) O):=λO h2=>by rw[wI,Os hk,h2];rfl
  cases e with
  |dead=>exact h1
  |box cs=>obtain⟨M,h2⟩:=h1;exact⟨_,U _ h2⟩
  |obj cs=>obtain⟨M,h2⟩:=h1;exact⟨_,U _ h2⟩
  |arr sz xs sl=>obtain⟨Y,V,h2,S⟩:=h1;obtain⟨G,B,C,h5⟩:=fK K (zD st.h) sz Y V;exact⟨G,B,(U _ h2).trans (by rw[C]),by rw[h5];exact S⟩
 ·(try dsimp only at u)
  split at u
  .exact z.own k b n u
  .simp at u
 .have hk:k∈K:=by
   have:=zAm.1 hK k (F.hK k b n u);simpa using this
  (try dsimp only)
  rw[Os hk];exact z.pas k b n u
 .rw[hg,dO]at hi;split at hi
  .have h1:zL st.tm GS= .gh i:=Ac hi;refine F.Jst i _ X w w _ (hJ i h1) (zAe _) (λ_ _ _=>rfl) (λb hb=>?_) (λb hb=>?_) Z Z Z
   .obtain⟨k,n,u⟩:=hb
    (try dsimp only at u)
    split at u
    .exact .inl ⟨k,n,u⟩
    .simp at u
   .obtain⟨k,n,u⟩:=hb;exact H'.lt b (.inr ⟨k,n,u⟩)
  .cases hi
 .show zD (vD K (zD st.h)) k≠some .dead
  rw[wI];split
  .intro h;rw[zAo]at h;obtain⟨e,I,h2⟩:=h
   cases e with
   |dead=>exact nd k I
   |box cs=>cases h2
   |obj cs=>cases h2
   |arr a b c=>obtain⟨G,B,C,_⟩:=fK K (zD st.h) a b c;rw[C]at h2;cases h2
  .intro h;cases h
theorem wV.restr {F:Fr K0} {st:St} (R:wV F m st a w) (K u:List Nat) (z:K0.all (K.contains ·)=true):wV F m (restr K u st) a w:=
 R.restrM K u z Z λ_=> .inl Z
def bD (P:Program) (f:Nat):Prop:=∀(args:Array Value) (w:World),(callFunc f args).run P w= .ok (.enter f args) w
def KU (_:List AV) (_:List (Nat×xM)) (_:AV) (_:List (Nat×xM)):Prop:=True
def wj {a:List AV} {u h1:List (Nat×xM)} {r:AV}:KU a u r h1:=trivial
structure wJ (P:Program) (f:Nat) (args:List AV) (h0:List (Nat×xM)) (r:AV) (h1:List (Nat×xM)):Prop where
 able:bD P f
 nd:∀k,zD h1 k≠some .dead
 sim:∀(X:Nat->Prop) (w:World) (β:uH) (cargs:Array Value),cargs.size=args.length->jW X (zD h0) β w->(∀(i:Nat) v,args[i]? =some v->yF w (xT X β) (zD h0) β v (cargs.getD i undef))->
  Calls P f cargs w λe w'=>∃c β',e= .returned c/\xX X w (zD h0) β w' (zD h1) β'/\yF w' (xT X β') (zD h1) β' r c
def xM.nosl:xM->Bool
 | .box cs=>NB cs
 | .obj cs=>true
 | .arr _ xs _=>NB xs
 | .dead=>true
variable {d h0 h1:List (Nat×xM)}
def KV:List (Nat×xM)->Bool
 | []=>true
 |(_,e)::r=>e.nosl&&KV r
theorem EQ:∀{h:List (Nat×xM)} {k:Nat} {e:xM},KV h=true->zD h k=some e->e.nosl=true
 | [],k,e,_,u=>by simp[zD]at u
 |(j,e0)::r,k,e,hn,u=>by
  simp[KV]at hn;rw[xV]at u;split at u
  .cases u;exact hn.1
  .exact EQ hn.2 u
def yV (h:List (Nat×xM)):List Nat:=h.map (·.1)
theorem vW:∀{h:List (Nat×xM)} {k:Nat} {e:xM},zD h k=some e->k∈yV h
 | [],k,e,u=>by simp[zD]at u
 |(j,e0)::r,k,e,u=>by
  rw[xV]at u;split at u
  .rename_i h;simp[yV,h]
  .have:=vW u;simp[yV]at this⊢;exact .inr this
theorem bE:∀{h:List (Nat×xM)} {k:Nat},k∈yV h->∃e,zD h k=some e
 | [],k,hk=>by simp[yV]at hk
 |(j,e0)::r,k,hk=>by
  rw[xV];split
  .exact⟨_,rfl⟩
  .rename_i h;simp only[yV,zBc,zBx]at hk;exact bE (hk.resolve_left h)
theorem dP:∀{h:List (Nat×xM)} {k:Nat} {e:xM},zD h k=some e->∃p∈h,p.2=e
 | [],k,e,u=>by simp[zD]at u
 |(j,e0)::r,k,e,u=>by
  rw[xV]at u;split at u
  .cases u;exact⟨(j,e0),by simp,rfl⟩
  .obtain⟨p,z,h2⟩:=dP u;exact⟨p,by simp[z],h2⟩
def fw (u:List Nat):xM->Bool
 | .box cs=>(jH cs).all (u.contains ·)
 | .obj cs=>true
 | .arr _ xs fl=>bif fl.nest then(jH xs).all (u.contains ·)else true
 | .dead=>true
def XY {x:AV} (h:x.cells[j]? =some v) (hk:k∈v.refs):k∈x.refs:=by
 cases x<;>first
  |(simp[AV.cells]at h;cases j<;>simp at h;subst h;exact hk)
  |exact wT h hk
def Q8 (K:List Nat) (h:yM) (v:AV):AV:=ZA (qC K h v)
theorem Aq {ρ:Operand->Value} {u:Array Value} (g:Operand->AV) (hc:u.size=ln caps) (h:(args.toList.map g++caps)[i]? =some v):
  (∃x,x∈args/\g x=v/\(args.map ρ++u).getD i undef=ρ x)\/∃j,caps[j]? =some v/\(args.map ρ++u).getD i undef=u.getD j undef:=by
 by_cases hi:i<args.size
 .rw[zA9 NL,zAh,zAo]at h;obtain⟨x,hx,rfl⟩:=h;have z:args[i]? =some x:=by simpa using hx
  refine .inl ⟨x,Array.mem_of_getElem? z,rfl,fB ?_⟩
  grind
 .rw[zBb qM]at h;refine .inr ⟨i-args.size,by simpa using h,?_⟩;have A:i-args.size<ln caps:=by simpa using (zAx.1 h).1
  apply fB
  grind [Array.getElem?_append_right,jA]
section
variable {P:Program} {st:St}
def vj {Xc:Nat->Prop} {z:uH} (hh:∀k e,h k=some e->h' k=some e/\β' k=z k) (E:∀b,xT X β' b->b<w'.heap.size->xT Xc z b\/False) (hv:yF w' (xT Xc z) h z v c):yF w' (xT X β') h' β' v c:=by
 have C:∀{v c},xF w' (xT Xc z) v c->xF w' (xT X β') v c:=λA=>A.evo (zAe _) λb hb hd=>⟨rfl,λh'=>hd ((E b h' hb).resolve_right id)⟩
 induction hv with
 |fz v c A=>exact .fz _ _ (C A)
 |agg cs c hl h1 _ u=>exact .agg cs c hl h1 u
 |fn f caps c hl _ u=>exact .fn f caps c hl u
 |tup M c hl _ u=>exact .tup M c hl u
 |dref k off len c hk h1=>exact .dref _ _ _ _ (hh k _ hk).1 h1
 |dptr k i off c hk h1=>exact .dptr _ _ _ _ (hh k _ hk).1 h1
 |ref k off len sz xs st b n cap hk hb B hc I=>exact .ref k off len sz xs st b n cap (hh k _ hk).1 (by rw[(hh k _ hk).2];exact hb) B hc I
 |ref0 k off sz xs st a hk B=>exact .ref0 k off sz xs st a (hh k _ hk).1 B
 |pbox k off cs b n hk hb=>exact .pbox k off cs b n (hh k _ hk).1 (by rw[(hh k _ hk).2];exact hb)
 |parr k i off sz xs st b n hk hb hi G=>exact .parr k i off sz xs st b n (hh k _ hk).1 (by rw[(hh k _ hk).2];exact hb) hi G
def Tf {Xc:Nat->Prop} {A:uH} (hh:∀k e,h k=some e->h' k=some e/\β' k=A k) (hv:yF w' (xT Xc A) h A v c):v.nosl=true->yF w' (xT X β') h' β' v c:=by
 induction hv with
 |fz v c B=>exact λu=> .fz _ _ (B.free u)
 |agg cs c hl h1 _ z=>exact λu=> .agg cs c hl h1 λi v hv=>z i v hv (fJ (by simpa [AV.nosl]using u) hv)
 |fn f caps c hl _ z=>exact λu=> .fn f caps c hl λi v hv=>z i v hv (fJ (by simpa [AV.nosl]using u) hv)
 |tup G c hl _ z=>exact λu=> .tup G c hl λi v hv=>z i v hv (fJ (by simpa [AV.nosl]using u) hv)
 |dref k off len c hk h1=>exact λ_=> .dref _ _ _ _ (hh k _ hk).1 h1
 |dptr k i off c hk h1=>exact λ_=> .dptr _ _ _ _ (hh k _ hk).1 h1
 |ref k off len sz xs st b n cap hk hb u hc E=>exact λ_=> .ref k off len sz xs st b n cap (hh k _ hk).1 (by rw[(hh k _ hk).2];exact hb) u hc E
 |ref0 k off sz xs st a hk u=>exact λ_=> .ref0 k off sz xs st a (hh k _ hk).1 u
 |pbox k off cs b n hk hb=>exact λ_=> .pbox k off cs b n (hh k _ hk).1 (by rw[(hh k _ hk).2];exact hb)
 |parr k i off sz xs st b n hk hb hi C=>exact λ_=> .parr k i off sz xs st b n (hh k _ hk).1 (by rw[(hh k _ hk).2];exact hb) hi C
theorem XO.lift {e:xM} (hb:β' k=β k) (hv:∀cs,e= .box cs->∀(i:Nat) v c,cs[i]? =some v->yF w D h β v c->yF w D' h' β' v c)
 (M:∀sz xs st,e= .arr sz xs st->∀(i:Nat) (x:AV) (j:Nat) v c,xs[i]? =some x->x.cells[j]? =some v->(xF w D v c->xF w D' v c)/\(st.nest=true->yF w D h β v c->yF w D' h' β' v c)) (H:XO w D h β k e):XO w D' h' β' k e:=by
 cases e with
 |dead=>exact hb.trans H
 |box cs=>
  obtain⟨b,c,G,h1,h2,B,u,C⟩:=H;exact⟨b,c,G,hb.trans h1,h2,B,u,λi v hi=>hv cs Z i v _ hi (C i v hi)⟩
 |obj cs=>
  exact⟨hb.trans H.1,H.2⟩
 | arr sz xs st=>
  obtain⟨h1,h2,B,u,C,f,z,I,R⟩:=H
  exact⟨h1,h2,by rwa [hb],u,by rwa [hb],f,λi x j v hx hv=>by
   obtain⟨E,O⟩:=M sz xs st Z i x j v (f i j) hx hv
   cases A:st.nest with
   |true=>exact⟨O A (z.toV i x j v hx hv),λh=>by cases h⟩
   |false=>exact⟨.fz _ _ (E (z.toF A i x j v hx hv)),λ_=>E (z.toF A i x j v hx hv)⟩,I,by rwa [hb]⟩
theorem kW {b4:Array Nat} {b3:List AV} {r:AV} (hc:wJ P f b3 h0 r h1) (hx:yW (zL st.tm) x= .fn f caps)
 (b7:(args.toList.map (yW (zL st.tm))++caps).map (qC (yV h0) (zD st.h))=b3) (cp:(yV h0).map (zD st.h)=(yV h0).map (zD h0)) (cl:h0.all (λp=>fw (yV h0) p.2)=true)
 (ca:((jH (args.toList.map (yW (zL st.tm))++caps)).all ((yV h0).contains ·)||(r.nosl&&KV h1))=true):
  wZ P st (.call ⟨.value x,args,b4⟩) r h1 (yV h0++jH (args.toList.map (yW (zL st.tm))++caps)) ((yV h1).filter λk=>!(yV h0).contains k):=by
 refine⟨?_⟩;intro X tm h hg I hn o a w β ho O Ht;obtain⟨d0,o0,y0,p0,f0,g0⟩:=o;dsimp only at ho;subst ho;have b9:=dE Ht hg (x:=x) gR hx
 obtain⟨cv,co,a7,cm⟩:∃cv:Array Value,a.eval x= .func (.func f) #[] cv/\cv.size=ln caps/\∀(i:Nat) v,caps[i]? =some v->yF w (xT X β) h β v (cv.getD i undef):=by
  generalize a.eval x=cx at b9
  cases b9 with
  |fz _ _ hf=>cases hf
  |fn _ _ c hl hh=>exact⟨c,rfl,hl,hh⟩
 have ce:(execOp a.eval ⟨d0,.call ⟨.value x,args,b4⟩,y0,p0,f0,g0⟩).run P w= .ok (.enter f (args.map a.eval++cv)) w:=by
  have ck:=hc.able (args.map a.eval++cv) w;simp[execOp,resolve,co,Deferred.ofValue,invoke,ck]
 rw[ce]
 have hK:∀k,k∈yV h0->h k=zD h0 k:=λk hk=>by
  rw[I k (by simp[hk])];obtain⟨i,hi⟩:=zDg hk;have:=zAt (·[i]?) cp
  grind
 have bx:∀k,zD h0 k=none->¬k∈yV h0:=λk hk z=>by
  obtain⟨e,A⟩:=bE z
  grind
 let βc:uH:=λk=>if k∈yV h0 then β k else []
 have U:∀k,k∈yV h0->βc k=β k:=λk hk=>by simp[βc,hk]
 have ci:∀k,¬k∈yV h0->βc k=[]:=λk hk=>by simp[βc,hk]
 have Y:∀k b n,(b,n)∈βc k->k∈yV h0/\(b,n)∈β k:=λk b n z=>by
  by_cases hk:k∈yV h0
  .rw[U k hk]at z;exact⟨hk,z⟩
  .rw[ci k hk]at z;simp at z
 let B:Bool:=!(jH (args.toList.map (yW (zL st.tm))++caps)).all ((yV h0).contains ·)
 let Xc:Nat->Prop:=λb=>X b\/(B=false/\∃k n,¬k∈yV h0/\(b,n)∈β k)
 have a1:∀b,xT Xc βc b->xT X β b:=λb hd=>by
  rcases hd with(hx|⟨_,k,n,_,z⟩)|⟨k,n,z⟩
  .exact .inl hx
  .exact .inr ⟨k,n,z⟩
  .exact .inr ⟨k,n,(Y k b n z).2⟩
 have S:∀k e,zD h0 k=some e->fw (yV h0) e=true:=λk e hk=>by
  obtain⟨p,hp,A⟩:=dP hk;have:=zAm.1 cl p hp;rw[A]at this;exact this
 have b8:∀{v c},yF w (xT X β) h β v c->(∀k,k∈v.refs->k∈yV h0\/∀b n,(b,n)∈β k->¬xT Xc βc b)->yF w (xT Xc βc) (zD h0) βc (qC (yV h0) h v) c:=λhv cr=>
  yF.fz0 O (λk hk e A=>by
   rw[hK k hk]at A
   cases e with
   |box cs=>exact⟨cs,A⟩
   |obj cs=>exact⟨cs,A⟩
   |arr sz xs fl=>exact⟨xs,fl,A,rfl⟩
   |dead=>exact A) U (λb _ hd h'=>hd (a1 b h')) hv cr
 have a6:∀{v c},yF w (xT X β) h β v c->(∀k,k∈v.refs->k∈yV h0)->yF w (xT Xc βc) (zD h0) βc v c:=by
  intro v c hv;have ef:∀{v c},xF w (xT X β) v c->xF w (xT Xc βc) v c:=λhf=>hf.evo (zAe _) λb _ hd=>⟨rfl,λh'=>hd (a1 b h')⟩
  induction hv with
  |fz v c hf=>exact λ_=> .fz _ _ (ef hf)
  |agg cs c hl h1 _ ih=>exact λI=> .agg cs c hl h1 λi v hv=>ih i v hv λk hk=>I k (by simpa [AV.refs]using wT hv hk)
  |fn f caps c hl _ ih=>exact λI=> .fn f caps c hl λi v hv=>ih i v hv λk hk=>I k (by simpa [AV.refs]using wT hv hk)
  |tup vs c hl _ ih=>exact λI=> .tup vs c hl λi v hv=>ih i v hv λk hk=>I k (by simpa [AV.refs]using wT hv hk)
  |dref k off len c hk h1=>exact λI=> .dref _ _ _ _ ((hK k (I k (by simp[AV.refs])))▸hk) h1
  |dptr k i off c hk h1=>exact λI=> .dptr _ _ _ _ ((hK k (I k (by simp[AV.refs])))▸hk) h1
  |ref k off len sz xs st b n cap hk hb hn hc hs=>exact λI=> .ref k off len sz xs st b n cap ((hK k (I k (by simp[AV.refs])))▸hk) (by rw[U k (I k (by simp[AV.refs]))];exact hb) hn hc hs
  |ref0 k off sz xs st a hk hn=>exact λI=> .ref0 k off sz xs st a ((hK k (I k (by simp[AV.refs])))▸hk) hn
  |pbox k off cs b n hk hb=>exact λI=> .pbox k off cs b n ((hK k (I k (by simp[AV.refs])))▸hk) (by rw[U k (I k (by simp[AV.refs]))];exact hb)
  |parr k i off sz xs st b n hk hb hi ho=>exact λI=> .parr k i off sz xs st b n ((hK k (I k (by simp[AV.refs])))▸hk) (by rw[U k (I k (by simp[AV.refs]))];exact hb) hi ho
 have Hc:jW Xc (zD h0) βc w:=by
  refine⟨λk e A=>?_,λk A=>ci k (bx k A),λk M b n C q1 q2=>O.disj _ _ _ _ _ (Y _ _ _ q1).2 (Y _ _ _ q2).2,λk b n z hx=>?_,λb hd=>O.lt b (a1 b hd)⟩
  .have hk:=vW A
   refine(O.ent k e ((hK k hk).trans A)).lift (U k hk) (λcs bk i v c hi hv=>a6 hv λj hj=>by
    have:=S k e A;rw[bk]at this
    simpa using zAm.1 this j (wT hi hj)) λsz xs fl b0 i x j v c hi hj=>⟨λhf=>hf.evo (zAe _) λb _ hd=>⟨rfl,λh'=>hd (a1 b h')⟩,λhn hv=>a6 hv λq hq=>by
    have:=S k e A;rw[b0]at this;simp only[fw,hn,zBk]at this
    simpa using zAm.1 this q (wT hi (XY hj hq))⟩
  .obtain⟨hk,z⟩:=Y k b n z
   rcases hx with hx|⟨_,M,C,hk',ar⟩
   .exact O.free k b n z hx
   .exact hk' (O.disj k M b n C z ar▸hk)
 have bf:∀(i:Nat) v,(args.toList.map (yW (zL st.tm))++caps)[i]? =some v->yF w (xT X β) h β v ((args.map a.eval++cv).getD i undef):=λi v hi=>by
  rcases Aq (ρ:=a.eval) (yW (zL st.tm)) a7 hi with⟨y,hy,rfl,A⟩|⟨j,hj,A⟩
  .rw[A]
   exact dE Ht hg (by
    simp only[Op.operands,Call.operands,Array.mem_append]
    exact .inr hy) Z
  .rw[A];exact cm j v hj
 have bz:∀(i:Nat) v,(args.toList.map (yW (zL st.tm))++caps)[i]? =some v->∀k,k∈v.refs->k∈yV h0\/∀b n,(b,n)∈β k->¬xT Xc βc b:=λi v hi k hk=>by
  by_cases W:k∈yV h0
  .exact .inl W
  .refine .inr λb n z hd=>?_
   have bu:B=true:=by
    cases hl:B with
    |true=>rfl
    |false=>
     simp only[B,Bool.not_eq_false']at hl;have:=zAm.1 hl k (wT hi hk);exact absurd Zd W
   rcases hd with(hx|⟨hf,_⟩)|⟨M,C,ar⟩
   .exact O.free k b n z hx
   .rw[bu]at hf;cases hf
   .obtain⟨q1,q2⟩:=Y M b C ar;exact W (O.disj k M b n C z q2▸q1)
 have bl:∀(i:Nat) v,(args.toList.map (yW (zL st.tm))++caps)[i]? =some v->qC (yV h0) (zD st.h) v=qC (yV h0) h v:=by
  have cj:∀v:AV,(∀k,k∈v.refs->h k=zD st.h k)->qC (yV h0) (zD st.h) v=qC (yV h0) h v:=by
   intro v
   refine AV.rec (motive_1:=λv=>(∀k,k∈v.refs->h k=zD st.h k)->qC (yV h0) (zD st.h) v=qC (yV h0) h v)
    (motive_2:=λcs=>(∀k,k∈jH cs->h k=zD st.h k)->wS (yV h0) (zD st.h) cs=wS (yV h0) h cs) ?_ ?_ ?_ ?_ ?_ ?_ ?_ ?_ ?_ ?_ ?_ ?_ ?_ ?_ v
   .exact λ_=>rfl
   .exact λ_ _=>rfl
   .exact λ_ _=>rfl
   .exact λcs ih hk=>by simp only[qC];rw[ih (by simpa [AV.refs]using hk)]
   .exact λ_ _ _ _=>rfl
   .exact λ_ _ _ _=>rfl
   .exact λk off len hk=>by simp only[qC];rw[hk k (by simp[AV.refs])]
   .exact λ_ _ _ _=>rfl
   .exact λ_ _ _ _ _=>rfl
   .exact λf cs ih hk=>by simp only[qC];rw[ih (by simpa [AV.refs]using hk)]
   .exact λcs ih hk=>by simp only[qC];rw[ih (by simpa [AV.refs]using hk)]
   .exact λ_ _ _=>rfl
   .exact λ_=>rfl
   .exact λv r cy cw hk=>by
     simp only[wS];rw[cy λk h=>hk k (by simp[jH,h]),cw λk h=>hk k (by simp[jH,h])]
  exact λi v hi=>cj v λk hk=>I k (by simp[wT hi hk])
 have cf:=hc.sim Xc w βc (args.map a.eval++cv) (by rw[<-b7];simp[a7]) Hc (λi v hi=>by
  rw[<-b7,zAh,zAo]at hi;obtain⟨u,hu,rfl⟩:=hi;rw[bl i u hu]
  exact b8 (bf i u hu) (bz i u hu))
 refine Calls.mono cf ?_;rintro e w' ⟨c,β1,A,G,hv⟩;refine⟨c,A,?_⟩;have cq:=G.lives Hc hc.nd
 let β':uH:=λk=>if(zD h1 k).isSome then β1 k else β k
 have a2:∀k e,zD h1 k=some e->β' k=β1 k:=λk e hk=>by simp[β',hk]
 have a3:∀k,zD h1 k=none->β' k=β k:=λk hk=>by simp[β',hk]
 have br:∀k,k∈yV h0->∃e,zD h1 k=some e:=λk hk=>by
  obtain⟨e,A⟩:=bE hk
  rcases G.key k e A with h2|h2
  .exact⟨_,h2⟩
  .cases e with
   |dead=>exact h2.elim
   |box cs=>exact⟨_,h2.1.choose_spec⟩
   |obj cs=>exact⟨_,h2.1.choose_spec⟩
   |arr sz xs st=>obtain⟨b2,st',V,_⟩:=h2.1;exact⟨_,V⟩
 have cb:∀k e,zD h1 k=some e->¬k∈yV h0->h k=none:=λk e hk W=>hn k (by
  simp only[zDs,zCr,List.contains_eq_mem,zAz]
  exact⟨vW hk,W⟩)
 have a5:∀k e,zD h1 k=some e->over h1 h k=some e:=λk e hk=>by simp[over,hk]
 have b1:∀k,zD h1 k=none->over h1 h k=h k:=λk hk=>by simp[over,hk]
 have ag:∀k b n,(b,n)∈β' k->((∃e,zD h1 k=some e)/\(b,n)∈β1 k)\/(zD h1 k=none/\¬k∈yV h0/\(b,n)∈β k):=λk b n z=>by
  cases hk:zD h1 k with
  |none=>rw[a3 k hk]at z;exact .inr ⟨rfl,(λh2=>by obtain⟨e,A⟩:=br k h2;rw[hk]at A;cases A),z⟩
  |some e=>rw[a2 k e hk]at z;exact .inl ⟨⟨e,rfl⟩,z⟩
 have az:∀k b n,(b,n)∈β1 k->(∃M C,M∈yV h0/\(b,C)∈β M)\/w.heap.size<=b:=λk b n z=>by
  rcases G.own k b n z with⟨M,C,h2⟩|h2
  .obtain⟨q1,q2⟩:=Y M b C h2;exact .inl ⟨M,C,q1,q2⟩
  .exact .inr h2
 have av:∀b,b<w.heap.size->(∀k n,k∈yV h0->(b,n)∉β k)->w'.heap[b]? =w.heap[b]? :=λb hb hk=>G.keep b hb λk n z=>by
  obtain⟨q1,q2⟩:=Y k b n z;exact hk k n q1 q2
 have ax:∀k b n,¬k∈yV h0->(b,n)∈β k->w'.heap[b]? =w.heap[b]? :=λk b n hk z=>av b (O.lt b (.inr ⟨k,n,z⟩)) λM C hk' ar=>hk (O.disj k M b n C z ar▸hk')
 have b5:∀k b n,(b,n)∈β k->wW w' b=wW w b:=λk b n z=>by
  by_cases hk:k∈yV h0
  .exact G.bs k b n (by rw[U k hk];exact z)
  .unfold wW World.shape?;rw[ax k b n hk z]
 have a9:∀k e,h k=some e->over h1 h k=some .dead\/match e with
   | .dead=>False
   | .box _=>(∃bd,over h1 h k=some (.box bd))/\∀b n,(b,n)∈β k->(b,n)∈β' k
   | .obj _=>(∃bd,over h1 h k=some (.obj bd))/\∀b n,(b,n)∈β k->(b,n)∈β' k
   | .arr sz xs _=>(∃b2 st',over h1 h k=some (.arr sz b2 st')/\xs.length<=ln b2)/\∀b n,(b,n)∈β k->∃C,n<=C/\(b,C)∈β' k:=λk e A=>by
  by_cases hk:k∈yV h0
  .have cn:=(hK k hk)▸A;have:=G.key k e cn;obtain⟨e1,ac⟩:=br k hk;rw[ac]at this;rw[a5 k e1 ac,a2 k e1 ac,<-U k hk];exact this
  .have cc:zD h1 k=none:=by
    cases h2:zD h1 k with
    |none=>rfl
    |some e1=>rw[cb k e1 h2 hk]at A;cases A
   rw[b1 k cc,a3 k cc];exact kY h β k e A
 have bb:∀k b n,(b,n)∈β' k->(∃M C,(b,C)∈β M)\/w.heap.size<=b:=λk b n z=>by
  rcases ag k b n z with⟨_,h2⟩|⟨_,_,h2⟩
  .rcases az k b n h2 with⟨M,C,_,V⟩|V
   .exact .inl ⟨M,C,V⟩
   .exact .inr V
  .exact .inl ⟨k,n,h2⟩
 have au:∀b,b<w.heap.size->(∀k n,(b,n)∉β k)->w'.heap[b]? =w.heap[b]? :=λb hb hk=>av b hb λk n _=>hk k n
 have E:DA w (xT X β) h β w' (xT X β') (over h1 h) β':=by
  refine⟨G.size,λb hb hd=>?_,b5,a9⟩;have q1:∀k n,(b,n)∉β k:=λk n z=>hd (.inr ⟨k,n,z⟩)
  refine⟨au b hb q1,?_⟩;rintro(hx|⟨k,n,z⟩)
  .exact hd (.inl hx)
  .rcases bb k b n z with⟨M,C,h2⟩|h2
   .exact q1 _ _ h2
   .omega
 have cg:∀k e,zD h1 k=some e->over h1 h k=some e/\β' k=β1 k:=λk e hk=>⟨a5 k e hk,a2 k e hk⟩
 have b6:B=false->∀b,xT X β' b->xT Xc β1 b:=λhl b hd=>by
  rcases hd with hx|⟨k,n,z⟩
  .exact .inl (.inl hx)
  .rcases ag k b n z with⟨_,h2⟩|⟨_,h2,V⟩
   .exact .inr ⟨k,n,h2⟩
   .exact .inl (.inr ⟨hl,k,n,h2,V⟩)
 have ap:B=false\/(r.nosl=true/\KV h1=true):=by
  rw[zCk]at ca
  rcases ca with h2|h2
  .left;show(!(_:Bool))=false;rw[h2];rfl
  .right;simpa using h2
 have R:∀{v c},(B=false\/v.nosl=true)->yF w' (xT Xc β1) (zD h1) β1 v c->yF w' (xT X β') (over h1 h) β' v c:=λhl hv=>by
  rcases hl with hl|hl
  .exact vj (h':=over h1 h) cg (λb hd _=> .inl (b6 hl b hd)) hv
  .exact Tf cg hv hl
 have a4:∀{v c},(B=false\/v.nosl=true)->xF w' (xT Xc β1) v c->xF w' (xT X β') v c:=λhl hv=>by
  rcases hl with hl|hl
  .exact hv.evo (zAe _) λb _ hd=>⟨rfl,λh'=>hd (b6 hl b h')⟩
  .exact hv.free hl
 have HK:jW X (over h1 h) β' w':=by
  refine⟨λk e A=>?_,λk A=>?_,λk M b n C q1 q2=>?_,λk b n z hx=>?_,λb hd=>?_⟩
  .cases hk:zD h1 k with
   |none=>
    rw[b1 k hk]at A;have W:¬k∈yV h0:=λh2=>by obtain⟨e1,ac⟩:=br k h2;rw[hk]at ac;cases ac
    exact(O.ent k e A).evo E (a3 k hk) λb n z=>ax k b n W z
   | some e1=>
    rw[a5 k e1 hk]at A;obtain rfl:=zD2 A;have cd:B=false\/e1.nosl=true:=ap.imp id λh2=>EQ h2.2 hk
    refine(G.hok.ent k e1 hk).lift (a2 k e1 hk) (λcs bk i v c hi hv=>R (cd.imp id λh2=>fJ (by rw[bk]at h2;exact h2) hi) hv) λsz xs st b0 i x j v c hi hj=>by
     have a8:B=false\/v.nosl=true:=cd.imp id λh2=>by
      have ch:x.nosl=true:=fJ (by rw[b0]at h2;exact h2) hi
      cases x<;>first
       |(simp[AV.cells]at hj;cases j<;>simp at hj;subst hj;exact ch)
       |(exact fJ (by simpa [AV.nosl,AV.cells]using ch) hj)
     exact⟨λhf=>a4 a8 hf,λ_ hv=>R a8 hv⟩
  .cases hk:zD h1 k with
   |none=>rw[b1 k hk]at A;rw[a3 k hk];exact O.off k A
   |some e1=>rw[a5 k e1 hk]at A;cases A
  .rcases ag k b n q1 with⟨_,h2⟩|⟨_,h2,V⟩<;>rcases ag M b C q2 with⟨_,h4⟩|⟨_,h4,h5⟩
   .exact G.hok.disj _ _ _ _ _ h2 h4
   .rcases az k b n h2 with⟨j,m,hj,z⟩|h6
    .exact absurd (O.disj j M b m C z h5▸hj) h4
    .have:=O.lt b (.inr ⟨M,C,h5⟩);omega
   .rcases az M b C h4 with⟨j,m,hj,z⟩|h6
    .exact absurd (O.disj j k b m n z V▸hj) h2
    .have:=O.lt b (.inr ⟨k,n,V⟩);omega
   .exact O.disj _ _ _ _ _ V h5
  .rcases ag k b n z with⟨_,h2⟩|⟨_,_,V⟩
   .exact G.hok.free k b n h2 (.inl hx)
   .exact O.free k b n V hx
  .rcases hd with hx|⟨k,n,z⟩
   .exact zBg (O.lt b (.inl hx)) G.size
   .rcases ag k b n z with⟨_,h2⟩|⟨_,_,V⟩
    .exact G.hok.lt b (.inr ⟨k,n,h2⟩)
    .exact zBg (O.lt b (.inr ⟨k,n,V⟩)) G.size
 exact⟨β',⟨G.size,au,bb,b5,a9,HK,G.os,G.tape,G.output⟩,R (ap.imp id (·.1)) hv⟩
def zK {C:Array Nat} {A:List AV} {r:AV} (hc:wJ P f A h0 r h1) (hx:yW (zL st.tm) x= .fn f caps)
 (B:(args.toList.map (yW (zL st.tm))++caps).map (Q8 (yV h0) (zD st.h))=A) (G:(yV h0).map (zD st.h)=(yV h0).map (zD h0)) (E:h0.all (λp=>fw (yV h0) p.2)=true)
 (I:((jH (args.toList.map (yW (zL st.tm))++caps)).all ((yV h0).contains ·)||(r.nosl&&KV h1))=true):
  wZ P st (.call ⟨.value x,args,C⟩) r h1 (yV h0++jH (args.toList.map (yW (zL st.tm))++caps)) ((yV h1).filter λk=>!(yV h0).contains k):=
 kW (hc:=⟨hc.able,hc.nd,λX w β z hl H M=>hc.sim X w β z (by rw[hl,<-B];simp) H λi v hi=>by
  rw[<-B,zAh,zAo]at hi;obtain⟨u,O,rfl⟩:=hi
  exact(M i _ (by rw[zAh,O];rfl)).wk⟩) hx Z G E I
end
section
section ops
variable {P:Program} {K0:List Nat} {F:Fr K0} {m:Nat} {ops:Array Oper} {rest:List Oper} {Q:St->Prop} {tm:List (Nat×AV)} {h:List (Nat×xM)}
def zr {st:St} (u:Q st):IS P F m ops [] st Q:=λ_ _ H=>⟨rfl,st,u,H⟩
def uj {o:Oper} {st:St} {st':St} (C:o.guard=none) (I:wZ P st o.op v d r nw) (G:∀k,k∈nw->zD st.h k=none) (hd:vZ d=true) (E:∀t,o.dst=some t->t<m)
 (B:∀t,zL st'.tm t=if o.dst=some t then v else zL st.tm t) (hh:zD st'.h=over d (zD st.h)) (hk:IS P F m ops rest st' Q):IS P F m ops (o::rest) st Q:=λa w H=>
 wpListIn_plain C λK A=>I.rel H (λ_ _=>rfl) (λ_ _=>rfl) G hd E λz w' u=>A _ _ (hk z w' (by
  have e1:zL st'.tm=λt=>if o.dst=some t then v else zL st.tm t:=funext B
  unfold wV;rw[e1,hh]
  exact u))
section
variable {op:Op} {ty:Nat} {pos:String} {after:Array Edge} {t:Nat} {v:AV} {r nw:List Nat}
end
def XL (ops:Array Oper) (j:Nat):Option Nat:=(ops[j]?).bind (·.dst)
def gw (v:Value) (b:Bool):Bool:=match v with
 | .bool c=>c==b
 |_=>false
def bW {j:Nat} {v:Value} (z:o.guard=some (j,b)) (A:XL ops j=some t) (hv:a.eval (.tmp t)=v):Region.wanted o (yielded ops a.tmps)=gw v b:=by
 subst hv;simp only[Region.wanted,z,yielded,show(ops[j]?).bind (·.dst)=some t from A,Option.bind_some,Act.eval,zA4]
 cases h:a.tmps[t]? with
 |none=>simp[undef,gw]
 |some u=>cases u<;>simp[gw]
def ER {st:St} (H:wV F m st a w) (hv:zL st.tm t= .s c):a.eval (.tmp t)=c:=by
 obtain⟨⟨_,β,_,_,u,_⟩,_⟩:=H;have:=u t;rw[hv]at this;exact this.s_inv
def zy {d:Option Nat} {j:Nat} {st:St} (u:XL ops j=some t) (hv:zL st.tm t= .s (.bool b)) (hk:IS P F m ops (⟨d,op,ty,pos,after,none⟩::rest) st Q):
  IS P F m ops (⟨d,op,ty,pos,after,some (j,b)⟩::rest) st Q:=λa w H=>by
 have z:=bW (o:=⟨d,op,ty,pos,after,some (j,b)⟩) Z u (ER H hv);have:=hk a w H;unfold wpListIn at this⊢;rw[Os (by rw[z];simp[gw])];rw[Os (by simp[Region.wanted])]at this;exact this
theorem TY.bot {tm:Nat->AV} {h:yM} (H:TY F m tm h a w) (u:Option Nat) (I:∀t,u=some t->t<m):TY F m (λt=>if u=some t then .s undef else tm t) h (a.put u undef) w:=by
 obtain⟨⟨X,β,G,z,A,B,E,C⟩,M,gs,hl⟩:=H;exact TY.put G z A B E C gs hl (xX.refl z) M (.fz _ _ (.s _)) u I
def yr {d:Nat} {j:Nat} (z:XL ops j=some t) (hv:zL tm t= .s c) (hc:gw c b=false) (u:Nat.blt d m=true) (hk:IS P F m ops rest ⟨(d,.s undef)::tm,h⟩ Q):
  IS P F m ops (⟨some d,op,ty,pos,after,some (j,b)⟩::rest) ⟨tm,h⟩ Q:=λa w H=>by
 have A:=bW (o:=⟨some d,op,ty,pos,after,some (j,b)⟩) Z z (ER H hv);unfold wpListIn;rw[hW (by rw[A,hc];simp)];refine⟨λ_ _=>trivial,hk _ _ ?_⟩;have:=TY.bot H (some d) (λj hj=>by cases hj;exact zAq u)
 have e1:zL ((d,.s undef)::tm)=λt=>if some d=some t then AV.s undef else zL tm t:=funext λt=>by rw[xL];simp[eq_comm]
 unfold wV;rw[e1];exact this
theorem qj {st:St} {t:Nat} {c u:Bool} (hv:zL st.tm t= .s (.bool c)) (hc:c=u) (hk:IS P F m ops l ⟨(t,.s (.bool u))::st.tm,st.h⟩ Q):IS P F m ops l st Q:=λa w H=>hk a w (by
 subst hc
 have e1:zL ((t,.s (.bool c))::st.tm)=zL st.tm:=funext λj=>by
  rw[xL];split
  .rename_i h;subst h;exact hv.symm
  .rfl
 unfold wV;dsimp only;rw[e1]
 exact H)
theorem Sf {st:St} {t:Nat} {c:Bool} (hv:zL st.tm t= .s (.bool c)) (h1:c=true->IS P F m ops l ⟨(t,.s (.bool true))::st.tm,st.h⟩ Q) (h2:c=false->IS P F m ops l ⟨(t,.s (.bool false))::st.tm,st.h⟩ Q):IS P F m ops l st Q:=by grind [zL,IS,qj]
end ops
section code
variable {P:Program} {K0:List Nat} {F:Fr K0} {m:Nat} {Q:Exit->St->Prop} {st:St}
def kX {c:Code} (K u:List Nat) (z:K0.all (K.contains ·)=true) {st':St} (A:restr K u st=st') (h:uG P F m c st' Q):uG P F m c st Q:=⟨λa w H=>h.run a w (A▸wV.restr H K u z)⟩
def wH {c:Code} (I:Nat->St->Prop) (n:Nat) (K A:List Nat) (E:K0.all (K.contains ·)=true) (h0:I n (restr K A st)) (u:∀n st,I n st->uG P F m c st (λe s=>match e with
  | .normal=>∃z,z<n/\I z (restr K A s)
  |e=>Q e s)):uG P F m (.loop c) st Q:=by
 refine kX K A E Z ⟨λa w H=>?_⟩;refine QR (λn a w=>∃st,I n st/\wV F m st a w) n ⟨_,h0,H⟩ λn a w ⟨st,hI,hR⟩=>?_
 refine Code.wpIn_mono (λe a' w' ⟨s,h1,h2⟩=>?_) ((u n st hI).run a w hR)
 cases e with
 |normal=>
  obtain⟨z,C,B⟩:=h1;exact⟨z,C,_,B,wV.restr h2 K A E⟩
 |_=>exact⟨s,h1,h2⟩
end code
def LQ (TT:List TI) (st:St):List ResultVar->Option (List AV)
 | []=>some []
 | .tmp t::r=>(LQ TT st r).map (zL st.tm t:: ·)
 | .cell a T::r=>match zL st.tm a with
  | .ptr k 0 off=>match zD st.h k,TT[T]? with
   |some (.box cs),some ti=>match AS ti.d.agg ti.size cs off with
    |some v=>(LQ TT st r).map (v:: ·)
    |none=>none
   |_,_=>none
  |_=>none
def ES:List AV->AV
 | [v]=>v
 |vs=> .tup vs
def gj (tmps:Array Value):ResultVar->Sem Value
 | .tmp t=>pure (tmps.getD t undef)
 | .cell b t=>do loadVar t (<-asAddr (tmps.getD b undef))
theorem NE {TT:List TI} (G:qI P TT) {st:St} (H:jW X (zD st.h) β w) (A:∀t,yF w (xT X β) (zD st.h) β (zL st.tm t) (a.eval (.tmp t))):
  ∀(l:List ResultVar) (z:List AV),LQ TT st l=some z->∃cs:List Value,(l.mapM (gj a.tmps)).run P w= .ok cs w/\cs.length=ln z/\
   ∀(i:Nat) v,z[i]? =some v->yF w (xT X β) (zD st.h) β v (cs.getD i undef)
 | [],z,h=>by cases h;exact⟨[],rfl,rfl,λi v hv=>by simp at hv⟩
 | .tmp t::r,z,h=>by
  simp only[LQ,zAo]at h;obtain⟨u,h1,rfl⟩:=h;obtain⟨cs,h2,C,E⟩:=NE G H A r u h1;refine⟨a.tmps.getD t undef::cs,by simp only[zFl,gj,Sem.run_bind,Sem.run_pure,Result.andThen_ok,h2],by simp[C],λi v hv=>?_⟩
  cases i with
  |zero=>simp at hv;subst hv;exact A t
  |succ i=>simpa using E i v EW
 | .cell b T::r,z,h=>by
  simp only[LQ]at h;split at h
  .rename_i k off hb;split at h
   .rename_i cs ti hk hT;split at h
    .rename_i v hv;rw[zAo]at h;obtain⟨u,h1,rfl⟩:=h;obtain⟨B,h2,C,E⟩:=NE G H A r u h1;have O:=A b;rw[hb]at O;obtain⟨R,hc,_,U⟩:=PQ H hk O;obtain⟨c,M,S⟩:=HM G hT U hv;rw[zBu]at M;have I:a.tmps.getD b undef= .pointer (some ⟨R,off,none⟩):=hc;refine⟨c::B,by simp only[zFl,gj,Sem.run_bind,I,asAddr,Sem.run_pure,Result.andThen_ok,M,h2],by simp[C],λi v hv=>?_⟩
     cases i with
     |zero=>simp at hv;subst hv;exact S
     |succ i=>simpa using E i v EW
    .cases h
   .cases h
  .cases h
def UA:Nat->List AV->List (Nat×AV)
 |_,[]=>[]
 |i,v::r=>(i,v)::UA (i+1) r
theorem XZ:∀(l:List AV) (i t:Nat),zL (UA i l) t=if i<=t then l.getD (t-i) .bot else .bot
 | [],i,t=>by simp[UA,zL]
 | v::r,i,t=>by
  rw[UA,xL,XZ r];by_cases h:t=i
  .subst h;simp
  .rw[hW h];by_cases h2:i<=t
   .rw[Os h2,Os (by omega),show t-i=(t-(i+1))+1 by omega];simp
   .rw[hW h2,hW (by omega)]
def Fin (TT:List TI) (z:List ResultVar) (h0:List (Nat×xM)) (r:AV) (h1:List (Nat×xM)) (e:Exit) (st:St):Prop:=
 (e= .normal\/e= .ret)/\∃u K,LQ TT st z=some u/\(yV h0).all (K.contains ·)=true/\(r=wR K (zD st.h) (ES u)\/r=ZA (wR K (zD st.h) (ES u)))/\zD h1=zD (vD K (zD st.h))
def zH {TT:List TI} {z:List ResultVar} {r:AV} {st:St} {u:List AV} (K:List Nat) (h:LQ TT st z=some u) (A:(yV h0).all (K.contains ·)=true) (B:ZA (wR K (zD st.h) (ES u))=r) (hh:vD K (zD st.h)=h1):
 Fin TT z h0 r h1 .ret st:=⟨.inr Z,u,K,h,A,.inr B.symm,by rw[hh]⟩
def zV {TT:List TI} {z:List ResultVar} {r:AV} {st:St} {u:List AV} (K:List Nat) (h:LQ TT st z=some u) (A:(yV h0).all (K.contains ·)=true) (B:wR K (zD st.h) (ES u)=r) (hh:vD K (zD st.h)=h1):
 Fin TT z h0 r h1 .ret st:=⟨.inr Z,u,K,h,A,.inl B.symm,by rw[hh]⟩
theorem xF.less (h:∀b,D' b->D b) (hv:xF w D v c):xF w D' v c:=
 hv.evo (zAe _) λb _ hd=>⟨rfl,λh'=>hd (h b h')⟩
theorem yF.less {X':Nat->Prop} (u:∀b,X' b->X b) (hv:yF w (xT X β) h β v c):yF w (xT X' β) h β v c:=
 hv.evo ⟨zAe _,λb _ hd=>⟨rfl,λh'=>hd (h'.imp (u b) id)⟩,λ_ _ _ _=>rfl,kY h β⟩
theorem jW.less {X':Nat->Prop} (u:∀b,X' b->X b) (H:jW X h β w):jW X' h β w:=
 ⟨λk e z=>(H.ent k e z).evo ⟨zAe _,λb _ hd=>⟨rfl,λh'=>hd (h'.imp (u b) id)⟩,λ_ _ _ _=>rfl,kY h β⟩ rfl λ_ _ _=>rfl,H.off,H.disj,λk b n A hx=>H.free k b n A (u b hx),λb hd=>H.lt b (hd.imp (u b) id)⟩
def UB (H:jW X h β w) (z:w.heap.size<=w'.heap.size) (hk:∀b,b<w.heap.size->¬X b->w'.heap[b]? =w.heap[b]?):DA w (xT X β) h β w' (xT X β) h β:=
 ⟨z,λb hb hd=>⟨hk b hb λhx=>hd (.inl hx),hd⟩,λk b n u=>by
  unfold wW World.shape?
  rw[hk b (H.lt b (.inr ⟨k,n,u⟩)) (H.free k b n u)],kY h β⟩
theorem jW.turn (H:jW X h β w) (z:w.heap.size<=w'.heap.size) (hk:∀b,b<w.heap.size->¬X b->w'.heap[b]? =w.heap[b]?):jW X h β w':=
 ⟨λk e A=>(H.ent k e A).evo (UB H z hk) Z λb n u=>hk b (H.lt b (.inr ⟨k,n,u⟩)) (H.free k b n u),H.off,H.disj,H.free,λb hd=>zBg (H.lt b hd) z⟩
theorem UC {fn:Func} {tmps:Array Value} {R:Ending->World->Prop}:∀(u:List Nat) (w:World),u.Nodup->(∀b,b∈u->w.heap[b]? =some (.deferred (some [])))->
  (∀w',w'.heap.size=w.heap.size->(∀b,¬b∈u->w'.heap[b]? =w.heap[b]?)->w'.os=w.os->w'.tape=w.tape->w'.output=w.output->∃v,(results fn tmps).run P w'= .ok v w'/\R (.returned v) w')->
  LeavesInM Fence.wide 0 P fn tmps R (u.map λb=>{target:= .collected b,args:= #[]}) .returning w
 | [],w,_,_,h=>h w Z (λ_ _=>rfl) Z Z Z
 |b::u,w,E,hb,h=>by
  have z:=List.nodup_cons.1 E;refine⟨by simp,.inl ⟨b,w.putObj b (.deferred none),rfl,run_takeDeferred (hb b yE),UC u _ z.2 (λc hc=>?_) (λw' h1 h2 A B C=>?_)⟩⟩
  .rw[World.putObj_heap_other (show c≠b from λe=>z.1 (by rw[<-e];exact hc))];exact hb c (by simp[hc])
  .refine h w' (by rw[h1];simp) (λc hc=>?_) A B C;simp at hc;rw[h2 c hc.2,World.putObj_heap_other hc.1]
theorem WA {TT:List TI} (hP:qI P TT) {fn:Func} {body:Code} {args:List AV} {r:AV} (hf:P.funcs[f]? =some fn) (hb:fn.body=some body) (av:bD P f) (U:Nat.ble (ln args) fn.ntmps=true)
 (a1:vZ  h0=true) (a2:vZ h1=true) (h:∀F:Fr (yV h0),F.ro=none/\F.it=false->uG P F fn.ntmps body ⟨UA 0 args,h0⟩ (Fin TT fn.results.toList h0 r h1)) (bl:Nat.ble fn.ntmps GS=true:=by rfl):wJ P f args h0 r h1:=by
  refine⟨av,λk=>qL a2,λX w β B b4 H W=>(callsIn_wide (n:=0)).1 ?_⟩;have U:=zAq U
  let F:Fr (yV h0):=⟨X,w,β,zD h0,λk b n u=>by
    cases hk:zD h0 k with
    |none=>rw[H.off k hk]at u;simp at u
    |some e=>exact vW hk,λk e E=>vW E,none,false,λ_=>False,λ_ _ _ _=>True,λ_ _ _ _ _ _ _ _ _ _ _ _ _ _=>trivial⟩
  refine callsIn_of_wp_marks (F:=Fence.wide) (n:=0) hf hb trivial (Code.wpIn_mono (λe V w1 q=>?_) ((h F ⟨rfl,rfl⟩).run _ w ⟨⟨X,β,⟨λ_ h=>h,λ_ h=> .inl h⟩,H,λt=>?_,⟨λk e E=>?_,zAe _,λ_ _ _ _=>rfl,λk b n u=> .inl ⟨k,n,u⟩,λk b n u=>⟨n,zAe _,u⟩,λ_ _ _ _=>rfl,rfl,rfl,rfl⟩,λ_ _=>trivial,[],rfl,λ_=>rfl,zEv,λb hb=>by simp at hb⟩,λk=>qL a1,zAq bl,by simp;omega⟩)) Z
  · obtain ⟨st,⟨E,G,K,hv,hK,hr,hh⟩,R⟩:=q;obtain⟨⟨X2,β2,⟨az,_⟩,I,au,z,_,bs,bk,_,bd,Y⟩,b6,_,b5⟩:=R
    have ax:LeavesInM Fence.wide 0 P fn V.tmps (λe w'=>∃c β',e= .returned c/\xX X w (zD h0) β w' (zD h1) β'/\yF w' (xT X β') (zD h1) β' r c) V.defers .returning w1:=by
     rw[bk];refine UC bs w1 bd (λb hb=>(Y b hb).2.2) λw' sz kp o1 o2 o3=>?_
     have ar:∀b,b<w1.heap.size->¬X2 b->w'.heap[b]? =w1.heap[b]? :=λb _ hx=>kp b λu=>hx (Y b u).1
     have H2:=I.turn (zCa sz.symm) ar;have a8:=λt=>(au t).evo (UB I (zCa sz.symm) ar)
     have C:gQ F (zD st.h) β2 w':=⟨z.knd,by rw[sz];exact z.size,λb hb hi hn=>by rw[kp b λu=>by have:=(Y b u).2.1;omega];exact z.keep b hb hi hn,z.own,z.pas,λk b n u=>by
      rw[<-z.bs k b n u];obtain⟨n',_,A⟩:=z.pas k b n u;unfold wW World.shape?
      rw[ar b (I.lt b (.inr ⟨k,n',A⟩)) (I.free k b n' A)],o1.trans z.os,o2.trans z.tape,o3.trans z.output⟩
     obtain⟨cs,q1,q2,q3⟩:=NE hP H2 a8 _ _ hv;obtain⟨a7,a6⟩:=H2.restr K;have H3:=a7.less az;have a5:=λv c hv=>(a6 v c hv).less az
     have a4:∃c,(results fn V.tmps).run P w'= .ok c w'/\yF w' (xT X2 β2) (zD st.h) β2 (ES G) c:=by
       have u:(fn.results.mapM (gj V.tmps)).run P w'= .ok cs.toArray w':=by
         rw[<-Array.toArray_toList (xs:=fn.results),List.mapM_toArray];simp only[Sem.run_map,q1,Result.andThen_ok]
       have a3:(results fn V.tmps).run P w'= .ok (if h:cs.toArray.size=1 then cs.toArray[0]else .tuple cs.toArray) w':=by
         show(fn.results.mapM (gj V.tmps) >>= λG=>pure (if h:G.size=1 then G[0]else .tuple G)).run P w'=_
         rw[Sem.run_bind,u];rfl
       refine⟨_,a3,?_⟩;by_cases h1:ln cs=1
       · rw[zFa JD]
         match cs,G,h1,q2,q3 with
         | [c],[v],_,_,q3=>exact q3 0 v Z
       · rw[dif_neg JD]
         have bu:ES G= .tup G:=by
           match G,q2 with
           | [],_=>rfl
           | [v],q2=>exact absurd q2 h1
           |_::_::_,_=>rfl
         rw[bu];exact .tup G _ (by simpa using q2) λi v hi=>by simpa [pi]using q3 i v hi
     obtain⟨c,ac,M⟩:=a4
     have ag:∃c β',Ending.returned c= .returned c/\(results fn V.tmps).run P w'= .ok c w'/\xX X w (zD h0) β w' (zD h1) β'/\yF w' (xT X β') (zD h1) β' r c:=by
       refine⟨c,λk=>if k∈K then β2 k else [],rfl,ac,?_,?_⟩
       · rw [hh];refine⟨C.size,λb hb hn=>C.keep b hb (λhf=>hf) hn,λk b n u=>?_,C.bs,λk e E=> .inr ?_,H3,C.os,C.tape,C.output⟩
         · (try dsimp only at u)
           split at u
           · exact C.own k b n u
           · simp at u
         · have S:k∈K:=by
             have:=zAm.1 hK k (vW E);simpa using this
           have h1:=C.knd k e E;have ap:∀e',zD st.h k=some e'->zD (vD K (zD st.h)) k=some (qD K (zD st.h) e'):=λe' h2=>by rw[wI,Os S,h2];rfl
           cases e with
           |dead=>exact h1
           | box b3=>
             obtain⟨a9,h2⟩:=h1;refine⟨⟨_,ap _ h2⟩,λb n u=>?_⟩
             (try dsimp only)
             rw[Os S];obtain⟨n',br,A⟩:=C.pas k b n u;obtain⟨b2,_,_,e2,_⟩:=H2.ent k _ h2;obtain⟨b1,_,_,e1,_⟩:=H.ent k _ E;rw[e1]at u;rw[e2]at A⊢;simp at u A⊢;exact⟨A.1,u.2⟩
           | obj cs=>
             obtain⟨a9,h2⟩:=h1;refine⟨⟨_,ap _ h2⟩,λb n u=>?_⟩
             (try dsimp only)
             rw[Os S];obtain⟨n',br,A⟩:=C.pas k b n u;have e2:=(H2.ent k _ h2).1;have e1:=(H.ent k _ E).1;rw[e1]at u;rw[e2]at A⊢;simp at u A⊢;exact⟨A.1,u.2⟩
           | arr sz xs sl=>
             obtain⟨bz,bx,h2,h3⟩:=h1;obtain⟨b0,bb,h4,h5⟩:=fK K (zD st.h) sz bz bx;refine⟨⟨b0,bb,(ap _ h2).trans (by rw[h4]),by rw[h5];exact h3⟩,λb n u=>?_⟩
             (try dsimp only)
             rw[Os S];exact C.pas k b n u
       · rw[hh]
         rcases hr with rfl|rfl
         · exact a5 _ _ M
         · exact(a5 _ _ M).wk
     obtain⟨c,β',_,ac,M,bf⟩:=ag;exact⟨c,ac,c,β',rfl,M,bf⟩
    rcases E with rfl|rfl
    all_goals exact ax
  · show yF w (xT X β) (zD h0) β (zL (UA 0 args) t) _
    rw[XZ,Os (zAn _),zFs];by_cases ht:t<ln args
    · have h2:args[t]? =some (args.getD t .bot):=by simp[pi,ht]
      have:=W t _ h2
      have e:Act.eval {tmps:=B++Array.replicate (fn.ntmps-B.size) undef,defers:=[]} (.tmp t)=B.getD t undef:=by
        simp only[Act.eval,zA4];rw[zCm (by omega)]
      rw[e];exact this
    · have:args.getD t .bot= .bot:=by simp[pi,zBj (by omega:ln args<=t)]
      rw[this];exact .fz _ _ (.bot _)
  · have O:zD h0 k=some e:=E
    cases e with
    |dead=>exact absurd O (qL a1)
    |box cs=>exact⟨cs,O⟩
    |obj cs=>exact⟨cs,O⟩
    |arr sz xs sl=>exact⟨xs,sl,O,zAe _⟩
end
def fS (l:Array Bool) (i:Nat):Bool:=l.getD i false
def binds (e:Edge):Bool:=Region.binds .any e
def xr (ops:Array Oper):Bool:=(pg ops.size).all λi=>((ops[i]?).map λo=>o.after.all λe=>!binds e||decide (e.on<i)).getD false
def wr (T:List Nat):List Edge->Nat->Nat
 | [],m=>m
 |e::r,m=>wr T r (bif binds e then m ||| (2 ^ e.on ||| T.getD e.on 0)else m)
def dw:List Oper->List Nat->List Nat
 | [],T=>T
 |o::r,T=>dw r (T++[wr T o.after.toList 0])
def NF (ops:List Oper):List Nat:=dw ops []
def P8 (ops:Array Oper) (T:List Nat):Bool:=
 (pg ops.size).all λi=>((ops[i]?).map λo=>Nat.beq (T.getD i 0) (wr T o.after.toList 0)).getD false
def vr (T:List Nat) (i j:Nat):Bool:=(T.getD i 0).testBit j
theorem ET (T:List Nat) (j:Nat):∀(l:List Edge) (m:Nat),(wr T l m).testBit j=true->m.testBit j=true\/∃e,e∈l/\binds e=true/\(e.on=j\/vr T e.on j=true)
 | [],m,h=> .inl h
 | e::r,m,h=>by
  rcases ET T j r _ h with h1|⟨e',h1,h2,h3⟩
  .cases hb:binds e with
   |false=>rw[hb]at h1;exact .inl h1
   |true=>
    rw[hb,zBk,Nat.testBit_or,Nat.testBit_or,Nat.testBit_two_pow,zCk,zCk]at h1
    rcases h1 with h1|h1|h1
    .exact .inl h1
    .exact .inr ⟨e,by simp,hb,.inl JD⟩
    .exact .inr ⟨e,by simp,hb,.inr h1⟩
  .exact .inr ⟨e',by simp[h1],h2,h3⟩
theorem UD (l:Array Bool) (i j:Nat) (hi:i<l.size):fS (l.setIfInBounds i true) j=if j=i then true else fS l j:=by
 unfold fS;by_cases e:j=i
 .simp_all [fS]
 .rw[hW e];simp only[zA4,Array.getElem?_setIfInBounds_ne (Ne.symm e)]
def Bp (p:Nat->Bool):Nat->Nat
 |0=>0
 |k+1=>Bp p k+if p k then 1 else 0
theorem Rf {p q:Nat->Bool} (n:Nat) (h:∀i,i<n->p i=q i):Bp p n=Bp q n:=by
 induction n with
 |zero=>rfl
 |succ n u=>unfold Bp;rw[u λi hi=>h i (by omega),h n (by omega)]
def yy (p:Nat->Bool) (n:Nat):Bp p n<=n:=by
 induction n with
 |zero=>exact zAe _
 |succ n u=>unfold Bp;split<;>omega
theorem yd {p q:Nat->Bool} (n i:Nat) (hi:i<n) (u:p i=false) (h:∀j,j≠i->q j=p j):Bp q n=Bp p n+if q i then 1 else 0:=by
 induction n with
 |zero=>omega
 |succ n z=>
  grind [Bp,Rf]
section
variable {ops:Array Oper} {T:List Nat}
theorem IT (A:xr ops=true) (hT:P8 ops T=true) {l:Array Bool} (hd:∀i o,ops[i]? =some o->fS l i=true->∀e∈o.after,binds e=true->fS l e.on=true):
  ∀(n i:Nat) (o:Oper),i<n->ops[i]? =some o->(∀e∈o.after,binds e=true->fS l e.on=true)->∀j,vr T i j=true->fS l j=true:=by
 intro n
 induction n with
 |zero=>intro i o h;omega
 | succ n I=>
  intro i o C z B j hj;have hi:i<ops.size:=(zCn.1 z).1;have h1:=zAm.1 hT i (zAw.2 hi);simp only[z,zB8,zCo]at h1;unfold vr at hj;rw[zA3 h1]at hj
  rcases ET T j _ _ hj with h2|⟨x,hx,hb,h2⟩
  .simp at h2
  have u:x∈o.after:=by simpa using hx
  have hl:=B _ u hb
  rcases h2 with h2|h2
  .grind
  .have E:=zAm.1 A i (zAw.2 hi);obtain⟨y,G,rfl⟩:=Array.getElem_of_mem u
   grind
theorem bF {l:Array Bool} (z:l.size=ops.size) (h:i∈Region.ready .any ops l):∃o,ops[i]? =some o/\fS l i=false/\∀e∈o.after,binds e=true->fS l e.on=true:=by
 unfold Region.ready at h;rw[zDs,zAw]at h;obtain⟨hi,h⟩:=h;have u:ops[i]? =some ops[i]:=by simp[hi]
 simp only[u,zB8,zCo,zAi,zCr,Array.all_eq_true,zCk]at h
 grind [fS,binds,Array.getD_eq_getD_getElem?,Array.getElem?_eq_getElem,Array.getElem_of_mem]
def Qf (B:xr ops=true) {l:Array Bool} (I:l.size=ops.size) (h:Region.ready .any ops l=[]):∀n i,i<n->i<ops.size->fS l i=true:=by
 intro n
 induction n with
 |zero=>intro i h;omega
 | succ n G=>
  intro i C hi
  cases hl:fS l i with
  |true=>rfl
  | false=>
   exfalso
   have A:i∈Region.ready .any ops l:=by
    unfold Region.ready;rw[zDs,zAw];refine⟨hi,?_⟩;have E:ops[i]? =some ops[i]:=by simp[hi]
    have u:=zAm.1 B i (zAw.2 hi);simp only[E,zB8,zCo,zAi,zCr,Array.all_eq_true,zCk,zAg]at u⊢;refine⟨?_,λx hx=>?_⟩
    .unfold fS at hl;simp only[zA4]at hl⊢;rw[zEc (by omega)]at hl⊢;simpa using hl
    .rcases u x hx with z|z
     .exact .inl z
     .exact .inr (G _ (by omega) (by omega))
   rw[h]at A;cases A
end
structure NG where
 on:Bool
 v:AV
 d:List (Nat×xM)
 r:List Nat
 nw:List Nat
def St.app (st:St) (u:Option Nat) (v:AV) (d:List (Nat×xM)):St:=⟨match u with
 |some t=>(t,v)::st.tm
 |none=>st.tm,d++st.h⟩
variable {st st':St}
def B9 (ops:Array Oper) (o:Oper):List Nat:=match o.guard with
 |some (j,_)=>(XL ops j).toList
 |none=>[]
def KW (P:Program) (m:Nat) (ops:Array Oper) (o:Oper) (st:St) (e:NG):Prop:=
 vZ e.d=true/\(∀t,o.dst=some t->t<m)/\(∀k,k∈e.nw->zD st.h k=none)/\
 (e.on=true->wZ P st o.op e.v e.d e.r e.nw)/\(e.on=false->e.v= .s undef/\e.d=[])/\
 match o.guard with
  |none=>e.on=true
  |some (j,b)=>∃t c,XL ops j=some t/\zL st.tm t= .s c/\e.on=gw c b
def Tr (P:Program) (m:Nat) (ops:Array Oper):List Oper->St->List NG->St->Prop
 | [],st,[],st'=>st=st'
 |o::l,st,e::u,st'=>KW P m ops o st e/\Tr P m ops l (st.app o.dst e.v e.d) u st'
 |_,_,_,_=>False
def kM (L:Nat->Bool):Nat->List (Option Nat×NG)->St->St
 |_,[],st=>st
 |i,(dst,e)::r,st=>kM L (i+1) r (bif L i then st.app dst e.v e.d else st)
def UE (st:St) (u:Option Nat) (v:AV) (d:List (Nat×xM)) (t:Nat):zL (st.app u v d).tm t=if u=some t then v else zL st.tm t:=by
 cases u with
 |none=>simp[St.app]
 |some j=>simp only[St.app,xL,zBw];by_cases h:t=j<;>simp[h,eq_comm]
def YL (st:St) (u:Option Nat) (v:AV) (d:List (Nat×xM)) (k:Nat):zD (st.app u v d).h k=over d (zD st.h) k:=by
 show zD (d++st.h) k=_
 rw[vQ]
theorem UF {u:Nat->Bool} :∀(r:List (Option Nat×NG)) (i:Nat) (st st':St),zL st.tm t=zL st'.tm t->(∀(j:Nat) p,r[j]? =some p->p.1=some t->L (i+j)=u (i+j))->
  zL (kM L i r st).tm t=zL (kM u i r st').tm t
 | [],_,_,_,h,_=>h
 | (dst,e)::r,i,st,st',h,hl=>by
  refine UF r (i+1) _ _ ?_ λj p z h1=>by have:=hl (j+1) p (by simpa using z) h1;rwa [show i+1+j=i+(j+1) by omega]
  by_cases hd:dst=some t
  .have:=hl 0 (dst,e) Z hd;simp only[zCy]at this;rw[this];cases u i
   .exact h
   .simp only[zBk,UE,hd,zEk]
  .cases L i<;>cases u i<;>simp only[zBk,zB9,UE,hW hd,h]
def EU (hk:¬k∈yV d):over d h k=h k:=by
 unfold over
 cases u:zD d k with
 |none=>rfl
 |some e=>exact absurd (vW u) hk
def xd (hk:k∈yV d):over d h k=over d h' k:=by
 obtain⟨e,u⟩:=bE hk;simp[over,u]
theorem YM {u:Nat->Bool} :∀(r:List (Option Nat×NG)) (i:Nat) (st st':St),zD st.h k=zD st'.h k->(∀(j:Nat) p,r[j]? =some p->k∈yV p.2.d->L (i+j)=u (i+j))->
  zD (kM L i r st).h k=zD (kM u i r st').h k
 | [],_,_,_,h,_=>h
 | (dst,e)::r,i,st,st',h,hl=>by
  refine YM r (i+1) _ _ ?_ λj p z h1=>by have:=hl (j+1) p (by simpa using z) h1;rwa [show i+1+j=i+(j+1) by omega]
  by_cases hd:k∈yV e.d
  .have:=hl 0 (dst,e) Z hd;simp only[zCy]at this;rw[this];cases u i
   .exact h
   .simp only[zBk,YL];exact xd hd
  .cases L i<;>cases u i<;>simp only[zBk,zB9,YL,EU hd,h]
theorem wd :∀(l:List Oper) (u:List NG) (i:Nat) (st st':St),Tr P m ops l st u st'->(∀j,j<ln l->L (i+j)=true)->kM L i (l.zipWith (λo e=>(o.dst,e)) u) st=st'
 | [],[],_,_,_,h,_=>h
 |o::l,e::u,i,st,st',h,hl=>by
  simp only[zC9,kM];rw[show L i=true from hl 0 yE];exact wd l u (i+1) _ st' h.2 λj hj=>by have:=hl (j+1) (by simpa using hj);rwa [show i+1+j=i+(j+1) by omega]
 | [],_::_,_,_,_,h,_=>h.elim
 |_::_,[],_,_,_,h,_=>h.elim
theorem UG :∀(r:List (Option Nat×NG)) (i:Nat) (st:St),(∀j,j<ln r->L (i+j)=false)->kM L i r st=st
 | [],_,_,_=>rfl
 |(dst,e)::r,i,st,h=>by
  unfold kM;rw[show L i=false from h 0 yE];exact UG r (i+1) st λj hj=>by have:=h (j+1) (by simpa using hj);rwa [show i+1+j=i+(j+1) by omega]
theorem Tr.len :∀{l:List Oper} {u:List NG} {st st':St},Tr P m ops l st u st'->ln u=ln l
 | [],[],_,_,_=>rfl
 |o::l,e::u,_,_,h=>by simp[Tr.len h.2]
 | [],_::_,_,_,h=>h.elim
 |_::_,[],_,_,h=>h.elim
theorem Tr.at :∀{l:List Oper} {u:List NG} {st st':St} (i k:Nat) (o:Oper) (e:NG),Tr P m ops l st u st'->l[i]? =some o->u[i]? =some e->
  KW P m ops o (kM (λj=>decide (j<k+i)) k (l.zipWith (λo e=>(o.dst,e)) u) st) e/\
   kM (λj=>decide (j<k+i+1)) k (l.zipWith (λo e=>(o.dst,e)) u) st=(kM (λj=>decide (j<k+i)) k (l.zipWith (λo e=>(o.dst,e)) u) st).app o.dst e.v e.d
 | A::l,z::u,st,st',0,k,o,e,h,h1,h2=>by
  simp at h1 h2;subst h1 h2;have C:kM (λj=>decide (j<k+0)) k ((A::l).zipWith (λo e=>(o.dst,e)) (z::u)) st=st:=UG _ _ _ λj _=>by simp
  have E:kM (λj=>decide (j<k+0+1)) k ((A::l).zipWith (λo e=>(o.dst,e)) (z::u)) st=st.app A.dst z.v z.d:=by
   simp only[zC9,kM,show decide (k<k+0+1)=true by simp,zBk];exact UG _ _ _ λj _=>by simp
  rw[C,E];exact⟨h.1,rfl⟩
 |A::l,z::u,st,st',i+1,k,o,e,h,h1,h2=>by
  have B:=Tr.at i (k+1) o e h.2 JD JE;simp only[zC9,kM,show decide (k<k+(i+1))=true by simp,show decide (k<k+(i+1)+1)=true by simp;omega,zBk];rw[show k+(i+1)=k+1+i by omega];exact B
 | [],[],_,_,_,_,_,_,_,h1,_=>by simp at h1
 | [],_::_,_,_,_,_,_,_,h,_,_=>h.elim
 |_::_,[],_,_,_,_,_,_,h,_,_=>h.elim
structure FP where
 on:Bool
 w:List Nat
 r:List Nat
def NG.fp (e:NG):FP:=⟨e.on,yV e.d++e.nw,e.r⟩
def Pf (ops:Array Oper) (o:Oper):List Nat:=B9 ops o++fV o.op
def cH (ops:Array Oper) (B z:Oper) (A u:FP):Bool:=
 (match B.dst with|some t=>(Pf ops z).contains t||z.dst==some t|none=>false)||(match z.dst with|some t=>(Pf ops B).contains t|none=>false)||
  A.w.any (λk=>u.w.contains k||u.r.contains k)||u.w.any (λk=>A.r.contains k)
def KX (l:List Oper) (T:List Nat) (fs:List FP):Bool:=
 xr l.toArray&&P8 l.toArray T&&(pg (ln l)).all λj=>(pg j).all λi=>match l[i]?,l[j]?,fs[i]?,fs[j]? with
  |some A,some B,some u,some z=>vr T j i|| !cH l.toArray A B u z
  |_,_,_,_=>false
section
variable {P:Program} {K0:List Nat} {F:Fr K0} {m:Nat}
theorem TY.congr {u:Nat->AV} (R:TY F m tm h a w) (e1:∀t,u t=tm t) (z:∀k,h' k=h k):TY F m u h' a w:=by
 obtain rfl:u=tm:=funext e1;obtain rfl:h'=h:=funext z;exact R
def WB (l:List Oper) (n:Nat) (T:List Nat) (fs:List FP):Bool:=
 xr l.toArray&&P8 l.toArray T&&((pg n).all λj=>(pg j).all λi=>match l[i]?,l[j]?,fs[i]?,fs[j]? with
  |some A,some B,some u,some z=>vr T j i|| !cH l.toArray A B u z
  |_,_,_,_=>false)&&Nat.ble n (ln l)&&((pg (ln l)).all λj=>Nat.blt j n||(pg j).all λi=>vr T j i)
theorem KY {id:Nat} (n:Nat) {es:List NG} {Q:Exit->St->Prop} (hm:P.follows .mixedOrders=true) (hT:Tr P m l.toArray (l.take n) st es st') (hC:WB l n (NF l) (es.map NG.fp)=true) (hB:IS P F m l.toArray (l.drop n) st' (Q .normal)):
  uG P F m (.region id l.toArray true) st Q:=by
 refine⟨?_⟩;intro a w H;unfold WB at hC;rw[zAi,zAi,zAi,zAi,zAm,zAm]at hC;obtain⟨⟨⟨⟨hA,a7⟩,hX⟩,a9⟩,hY⟩:=hC;have a9:=zAq a9;generalize NF l=T at *;have bs:=hT.len;rw[zA0,Nat.min_eq_left a9]at bs
 have a6:∀(i:Nat) o,(l.take n)[i]? =some o->l[i]? =some o/\i<n:=λi o h=>by
  have h1:i<n:=by
   have:=(zAx.1 h).1;rw[zA0]at this;omega
  rw[List.getElem?_take_of_lt h1]at h;exact⟨h,h1⟩
 have b3:∀i j,n<=j->j<ln l->i<j->vr T j i=true:=λi j h1 h2 U=>by
  have:=hY j (zAw.2 h2);rw[show Nat.blt j n=false by cases hb:Nat.blt j n with|false=>rfl|true=>exact absurd (zAq hb) (by omega),zCh,zAm]at this;exact this i (zAw.2 U)
 let R:=(l.take n).zipWith (λo e=>(o.dst,e)) es
 have hR:∀(j:Nat) p,R[j]? =some p->∃o e,(l.take n)[j]? =some o/\es[j]? =some e/\p=(o.dst,e):=λj p W=>by
  simp only[R,List.getElem?_zipWith]at W
  cases I:(l.take n)[j]? with
  |none=>simp[I]at W
  |some o=>cases he:es[j]? with
   |none=>simp[I,he]at W
   |some e=>simp[I,he]at W;exact⟨o,e,rfl,rfl,W.symm⟩
 have b4:∀i j oi C ei z,i<j->(l.take n)[i]? =some oi->(l.take n)[j]? =some C->es[i]? =some ei->es[j]? =some z->cH l.toArray oi C ei.fp z.fp=true->vr T j i=true:=λi j oi C ei z bu h1 h2 U h4 h5=>by
  have:=zAm.1 (hX j (zAw.2 (a6 j C h2).2)) i (zAw.2 bu);simp only[(a6 i oi h1).1,(a6 j C h2).1,zAh,U,h4,zB8,h5,zE4,zE5]at this;simpa using this
 let QQ:Exit->Act->World->Prop:=λe M w'=>e= .normal/\∃s,Q .normal s/\wV F m s M w'
 let J0:Array Bool->Prop:=λL=>L.size=l.toArray.size/\(∀i o,l.toArray[i]? =some o->fS L i=true->∀e∈o.after,binds e=true->fS L e.on=true)
 let JA:Array Bool->Act->World->Prop:=λL a w=>J0 L/\(∀i,n<=i->fS L i=false)/\TY F m (zL (kM (fS L) 0 R st).tm) (zD (kM (fS L) 0 R st).h) a w
 let JB:Array Bool->Act->World->Prop:=λL a w=>J0 L/\∃k,(∀i,fS L i=decide (i<n+k))/\n+k<=ln l/\wpListIn (EP F.ro) 0 P l.toArray QQ (l.drop (n+k)) a w
 let J:Array Bool->Act->World->Prop:=λL a w=>JA L a w\/JB L a w
 have a1:∀L a w,J L a w->J0 L:=λL a w h=>h.elim (λh=>h.1) (λh=>h.1)
 have b2:∀L a w,JA L a w->(∀i,i<n->fS L i=true)->JB L a w:=λL a w B V=>by
  refine⟨B.1,0,λi=>?_,a9,?_⟩
  .by_cases h:i<n
   .rw[V i h];simp[h]
   .rw[B.2.1 i (by omega)];simp[h]
  .have:kM (fS L) 0 R st=st':=wd (l.take n) es 0 st st' hT λj hj=>by rw[zBu];exact V j (by rw[zA0]at hj;omega)
   have h2:=B.2.2;rw[this]at h2;exact hB a w h2
 have bk:∀L a w,(∀i,i<l.toArray.size->fS L i=true)->J L a w->QQ .normal a w:=λL a w V B=>by
  have cf:JB L a w:=B.elim (λh=>b2 L a w h λi hi=>V i qM) (λh=>h);obtain⟨_,k,h1,h2,U⟩:=cf
  have hk:n+k=ln l:=by
   by_cases h:n+k<ln l
   .have h4:=V (n+k) NJ;rw[h1]at h4;simp at h4
   .omega
  rw[hk,zFd]at U;exact U
 have bd:∀(L:Array Bool) i o,J0 L->l.toArray[i]? =some o->(∀e∈o.after,binds e=true->fS L e.on=true)->J0 (L.setIfInBounds i true):=λL i o h0 I A=>by
  obtain⟨hs,ar⟩:=h0;have E:i<l.toArray.size:=(zCn.1 I).1
  have O:∀j,fS (L.setIfInBounds i true) j=if j=i then true else fS L j:=λj=>UD L i j (by rw[hs];exact E)
  refine⟨by simpa using hs,λj C av a5 ed b5 hb=>?_⟩;rw[O]at a5⊢;by_cases u:j=i
  .subst u;rw[I]at av;cases av;split
   .rfl
   .exact A ed b5 hb
  .rw[hW u]at a5;split
   .rfl
   .exact ar j C av a5 ed b5 hb
 have ap:∀L a w i,JB L a w->i∈Region.ready .any l.toArray L->∀K:Act->World->Prop,(∀M w',J (L.setIfInBounds i true) M w'->K M w')->wpOpIn (EP F.ro) 0 P l.toArray QQ i K a w:=by
  intro L a w i B hi K hK;obtain⟨h0,k,h1,h2,U⟩:=B;obtain⟨o,I,hl,A⟩:=bF h0.1 hi;have E:i<l.toArray.size:=(zCn.1 I).1;have a4:i<ln l:=by simpa using E
  have cl:n+k<=i:=by
   rw[h1]at hl;simpa using hl
  have cg:i=n+k:=by
   by_cases h:n+k<i
   .have h5:=IT hA a7 h0.2 (i+1) i o (by omega) I A (n+k) (b3 _ _ (by omega) a4 h);rw[h1]at h5;simp at h5
   .omega
  subst cg;rw[zDw a4]at U
  have au:l[n+k]'a4=o:=by
   have:=(zCn.1 I).2;simpa using this
  rw[au]at U
  have O:∀j,fS (L.setIfInBounds (n+k) true) j=if j=n+k then true else fS L j:=λj=>UD L _ j (by rw[h0.1];exact E)
  have b8:∀M w',wpListIn (EP F.ro) 0 P l.toArray QQ (l.drop (n+k+1)) M w'->K M w':=λM w' h=>by
   refine hK M w' (.inr ⟨bd L _ o h0 I A,k+1,λj=>?_,by omega,h⟩);rw[O,h1];by_cases hj:j=n+k
   .rw[Os hj];simp;omega
   .rw[hW hj];by_cases ch:j<n+k
    all_goals(simp[ch];omega)
  unfold wpOpIn;rw[I];dsimp only;unfold wpListIn at U;split
  .rename_i hw;rw[Os hw]at U;exact Oper.wpIn_mono b8 U
  .rename_i hw;rw[hW hw]at U;exact⟨U.1,b8 _ _ U.2⟩
 have bz:∀L a w i,J L a w->i∈Region.ready .any l.toArray L->∀K:Act->World->Prop,(∀M w',J (L.setIfInBounds i true) M w'->K M w')->wpOpIn (EP F.ro) 0 P l.toArray QQ i K a w:=by
  intro L a w i B hi K hK
  rcases B with B|B
  case inr=>exact ap L a w i B hi K hK
  by_cases br:i<n
  case neg=>
   refine ap L a w i (b2 L a w B λj hj=>?_) hi K hK;obtain⟨o,I,hl,A⟩:=bF B.1.1 hi;have E:i<l.toArray.size:=(zCn.1 I).1;exact IT hA a7 B.1.2 (i+1) i o (by omega) I A j (b3 _ _ (by omega) (by simpa using E) (by omega))
  obtain⟨cd,b6,a2⟩:=B;obtain⟨hs,ar⟩:=cd;obtain⟨o,I,hl,A⟩:=bF hs hi;have E:i<l.toArray.size:=(zCn.1 I).1;have au:(l.take n)[i]? =some o:=by rw[List.getElem?_take_of_lt br];simpa using I
  obtain⟨e,he⟩:∃e,es[i]? =some e:=⟨es[i]'(by rw[bs];exact br),by simp⟩;have a8:=IT hA a7 ar (i+1) i o (by omega) I A
  have bx:∀j,j<l.toArray.size->vr T j i=true->fS L j=false:=λj hj bu=>by
   cases a5:fS L j with
   |false=>rfl
   |true=>
    have av:l.toArray[j]? =some l.toArray[j]:=by simp[hj]
    have:=IT hA a7 ar (j+1) j _ (by omega) av (ar j _ av a5) i bu;rw[hl]at this;cases this
  have ag:∀j C z,(l.take n)[j]? =some C->es[j]? =some z->j≠i->(j<i->cH l.toArray C o z.fp e.fp=true)->(i<j->cH l.toArray o C e.fp z.fp=true)->fS L j=decide (j<i):=λj C z h1 h2 ci U h4=>by
   rcases Nat.lt_or_gt_of_ne ci with h|h
   .rw[a8 j (b4 j i C o z e h h1 au h2 he (U h))];simp[h]
   .rw[bx j (by have:=a6 j C h1;simp;omega) (b4 i j o C e z h au h1 he h2 (h4 h))];simp;omega
  obtain⟨⟨s1,s2,s3,s4,s5,s6⟩,ac⟩:=hT.at i 0 o e au he;simp only[zBu]at s3 s4 s6 ac
  let Li:Nat->Bool:=λj=>decide (j<i)
  have cc:∀t,t∈Pf l.toArray o->zL (kM (fS L) 0 R st).tm t=zL (kM Li 0 R st).tm t:=λt ht=>UF R 0 st st Z λj p W hd=>by
   obtain⟨C,z,h1,h2,rfl⟩:=hR j p W;rw[zBu];by_cases u:j=i
   .subst u;simp only[Li];rw[hl];simp
   .refine ag j C z h1 h2 u (λ_=>?_) λ_=>?_
    .unfold cH;simp only[show C.dst=some t from hd,zCw.2 ht,zCt]
    .unfold cH;simp only[show C.dst=some t from hd,zCw.2 ht,zCt,zDq]
  have cb:∀k,k∈e.r\/k∈e.nw\/k∈yV e.d->zD (kM (fS L) 0 R st).h k=zD (kM Li 0 R st).h k:=λk hk=>YM R 0 st st Z λj p W hd=>by
   obtain⟨C,z,h1,h2,rfl⟩:=hR j p W;rw[zBu];by_cases u:j=i
   .subst u;simp only[Li];rw[hl];simp
   .have az:k∈z.fp.w:=by simp only[NG.fp,zAy];exact .inl hd
    have b7:k∈e.fp.w\/k∈e.fp.r:=by
     simp only[NG.fp,zAy]
     rcases hk with h|h|h
     .exact .inr h
     .exact .inl (.inr h)
     .exact .inl (.inl h)
    refine ag j C z h1 h2 u (λ_=>?_) λ_=>?_
    .have:z.fp.w.any (λk=>e.fp.w.contains k||e.fp.r.contains k)=true:=zBr.2 ⟨k,az,by simp only[zCk,zCw];exact b7⟩;unfold cH;simp only[this,zDq,zCt]
    .rcases b7 with h|h
     .have:e.fp.w.any (λk=>z.fp.w.contains k||z.fp.r.contains k)=true:=zBr.2 ⟨k,h,by simp only[zCk,zCw];exact .inl az⟩;unfold cH;simp only[this,zDq,zCt]
     .have:z.fp.w.any (λk=>e.fp.r.contains k)=true:=zBr.2 ⟨k,az,zCw.2 h⟩;unfold cH;simp only[this,zDq]
  have O:∀j,fS (L.setIfInBounds i true) j=if j=i then true else fS L j:=λj=>UD L i j (by rw[hs];exact E)
  have b0:∀t,zL (kM (fS (L.setIfInBounds i true)) 0 R st).tm t=if o.dst=some t then e.v else zL (kM (fS L) 0 R st).tm t:=λt=>by
   by_cases hd:o.dst=some t
   .rw[Os hd]
    have h1:zL (kM (fS (L.setIfInBounds i true)) 0 R st).tm t=zL (kM (λj=>decide (j<i+1)) 0 R st).tm t:=UF R 0 st st Z λj p W Y=>by
     obtain⟨C,z,h1,h2,rfl⟩:=hR j p W;rw[zBu,O];by_cases u:j=i
     .subst u;simp
     .have bf:C.dst=some t:=Y;rw[hW u,ag j C z h1 h2 u (λ_=>by unfold cH;simp[bf,hd]) (λ_=>by unfold cH;simp[bf,hd])];by_cases h:j<i
      all_goals(simp[h];omega)
    rw[h1,show(kM (λj=>decide (j<i+1)) 0 R st)=_ from ac,UE,Os hd]
   .rw[hW hd]
    exact UF R 0 st st Z λj p W Y=>by
     obtain⟨C,z,h1,h2,rfl⟩:=hR j p W;rw[zBu,O];by_cases u:j=i
     .subst u;rw[au]at h1;cases h1;exact absurd Y hd
     .rw[hW u]
  have bb:∀k,zD (kM (fS (L.setIfInBounds i true)) 0 R st).h k=over e.d (zD (kM (fS L) 0 R st).h) k:=λk=>by
   by_cases hd:k∈yV e.d
   .have h1:zD (kM (fS (L.setIfInBounds i true)) 0 R st).h k=zD (kM (λj=>decide (j<i+1)) 0 R st).h k:=YM R 0 st st Z λj p W Y=>by
     obtain⟨C,z,h1,h2,rfl⟩:=hR j p W;rw[zBu,O];by_cases u:j=i
     .subst u;simp
     .have az:k∈z.fp.w:=by simp only[NG.fp,zAy];exact .inl Y
      have b9:k∈e.fp.w:=by simp only[NG.fp,zAy];exact .inl hd
      have q1:z.fp.w.any (λk=>e.fp.w.contains k||e.fp.r.contains k)=true:=zBr.2 ⟨k,az,by simp only[zCk,zCw];exact .inl b9⟩;have q2:e.fp.w.any (λk=>z.fp.w.contains k||z.fp.r.contains k)=true:=zBr.2 ⟨k,b9,by simp only[zCk,zCw];exact .inl az⟩;rw[hW u,ag j C z h1 h2 u (λ_=>by unfold cH;simp only[q1,zDq,zCt]) (λ_=>by unfold cH;simp only[q2,zDq,zCt])];by_cases h:j<i
      all_goals(simp[h];omega)
    rw[h1,show(kM (λj=>decide (j<i+1)) 0 R st)=_ from ac,YL];exact xd hd
   .rw[EU hd]
    exact YM R 0 st st Z λj p W Y=>by
     obtain⟨C,z,h1,h2,rfl⟩:=hR j p W;rw[zBu,O];by_cases u:j=i
     .subst u;rw[he]at h2;cases h2;exact absurd Y hd
     .rw[hW u]
  have bl:∀M w',TY F m (λt=>if o.dst=some t then e.v else zL (kM (fS L) 0 R st).tm t) (over e.d (zD (kM (fS L) 0 R st).h)) M w'->K M w':=λM w' h=>by
   refine hK M w' (.inl ⟨bd L i o ⟨hs,ar⟩ I A,λj hj=>?_,h.congr b0 bb⟩);rw[O,hW (by omega)];exact b6 j hj
  have a3:e.on=true->o.wpIn (EP F.ro) 0 P a w K QQ:=λax=>
   (s4 ax).rel a2 (λt ht=>cc t (by unfold Pf;simp[ht])) (λk hk=>cb k (.inl hk)) (λk hk=>by rw[cb k (.inr (.inl hk))];exact s3 k hk) s1 s2 bl
  unfold wpOpIn;rw[I];dsimp only
  cases hg:o.guard with
  |none=>
   rw[hg]at s6;rw[Os (by simp[Region.wanted,hg])];exact a3 s6
  | some jb=>
   obtain⟨j,b⟩:=jb;rw[hg]at s6;obtain⟨t,c,g1,g2,g3⟩:=s6;have cj:t∈Pf l.toArray o:=by unfold Pf B9;simp[hg,g1]
   have hv:a.eval (.tmp t)=c:=by
    obtain⟨⟨_,β,_,_,Ht,_⟩,_⟩:=a2;have:=Ht t;rw[cc t cj,g2]at this;exact this.s_inv
   have hw:=bW hg g1 hv
   cases ax:e.on with
   |true=>
    rw[Os (by rw[hw,<-g3,ax])];exact a3 ax
   |false=>
    rw[hW (by rw[hw,<-g3,ax];simp)];obtain⟨v1,v2⟩:=s5 ax;refine⟨λ_ _=>trivial,bl _ _ ?_⟩;rw[v1,v2];exact TY.bot a2 o.dst s2
 have ca:∀(S:Nat) (L:Array Bool) (a:Act) (w:World),Bp (λi=>!fS L i) l.toArray.size<=S->J L a w->wpAnyIn (EP F.ro) 0 P .any l.toArray QQ S L a w:=by
  intro S
  induction S with
  | zero=>
   intro L a w hf B
   have b1:∀i,i<l.toArray.size->fS L i=true:=by
    intro i hi
    cases hl:fS L i with
    |true=>rfl
    |false=>
     exfalso;have h:=yd (p:=λj=>!fS L j&&j != i) (q:=λj=>!fS L j) l.toArray.size i hi yE (λj hj=>by simp[hj]);simp[hl]at h;simp at hf;omega
   refine⟨?_,bk L a w b1 B⟩
   cases hr:Region.ready .any l.toArray L with
   |nil=>rfl
   |cons i ck=>
    obtain⟨o,I,hl,_⟩:=bF (a1 _ _ _ B).1 (i:=i) (by rw[hr];simp);rw[b1 i (zCn.1 I).1]at hl;cases hl
  |succ S ih=>
   intro L a w hf B;refine⟨λhr=>bk L a w (λi hi=>Qf hA (a1 _ _ _ B).1 hr (i+1) i (by omega) hi) B,λi hi=>?_⟩;refine bz L a w i B hi _ (λM w' ce=>ih _ _ _ ?_ ce);obtain⟨o,I,hl,_⟩:=bF (a1 _ _ _ B).1 hi;have E:i<l.toArray.size:=(zCn.1 I).1;have h:=yd (p:=λj=>!fS (L.setIfInBounds i true) j) (q:=λj=>!fS L j) l.toArray.size i E (by simp[UD L i i (by rw[(a1 _ _ _ B).1];exact E)]) (λj hj=>by simp[UD L i j (by rw[(a1 _ _ _ B).1];exact E),hj]);simp[hl]at h;simp at hf⊢;omega
 refine Code.wpIn_mono (λe M w' ⟨he,s,h1,h2⟩=>⟨s,by rw[he];exact h1,h2⟩) (wpIn_region_any hm (ca _ _ _ _ (yy _ _) ?_))
 have hf:∀i,fS (Array.replicate l.toArray.size false) i=false:=by
  intro i;unfold fS;simp only[zA4,Array.getElem?_replicate]
  split<;>rfl
 refine .inl ⟨⟨by simp,λi o _ hl=>?_⟩,λi _=>hf i,?_⟩
 .rw[hf]at hl;cases hl
 .rw[UG R 0 st λj _=>hf _];obtain⟨⟨X,β,hX,HH,Ht,KK,B,hD⟩,nd,gs,hl⟩:=H;have G:=xX.drew HH (w.drawn+1);exact⟨⟨X,β,hX,G.hok,λt=>(Ht t).evo G.evo,KK.goes G nd (G.lives HH nd),λi hi=>F.go G (B i hi),hD.goes HH G⟩,nd,gs,hl⟩
theorem bj {id:Nat} {u:List NG} {Q:Exit->St->Prop} (A:P.follows .mixedOrders=true) (hT:Tr P m l.toArray l st u st') (z:KX l (NF l) (u.map NG.fp)=true) (B:Q .normal st'):
  uG P F m (.region id l.toArray true) st Q:=by
 refine KY (ln l) A (by rw[zAa];exact hT) ?_ (by rw[zFd];exact λa w H=>⟨rfl,_,B,H⟩);unfold WB;unfold KX at z;rw[z,zAj,zAi,zAm];refine⟨zDf (zAe _),λj hj=>?_⟩;rw[show Nat.blt j (ln l)=true from zDf (zAw.1 hj),zCt]
end
def Va {TT:List TI} (h:(pg (ln TT)).map (λt=>Qj P t)=TT.map some):qI P TT:=λt ti u=>by
 have hl:=(zAx.1 u).1;have:=zAt (·[t]?) h;simp only[zAh,u,zB8,zB2 hl]at this;simpa using this
def F4 (P:Program) (F:Fr K0) (m:Nat) (ops:Array Oper):Bool->List Oper->St->List FP->(List FP->St->Prop)->Prop
 |false,l,st,_,Q=>IS P F m ops l st (Q [])
 |true,l,st,fs,Q=>∃u st',Tr P m ops l st u st'/\Q ((u.map NG.fp).reverse++fs) st'
structure yP (P:Program) {K0:List Nat} (F:Fr K0) (m:Nat) (ops:Array Oper) (dr:Bool) (l:List Oper) (st:St) (fs:List FP) (Q:List FP->St->Prop):Prop where
 run:F4 P F m ops dr l st fs Q
section
variable {P:Program} {K0:List Nat} {F:Fr K0} {m:Nat} {ops:Array Oper} {rest:List Oper} {Q:List FP->St->Prop} {tm:List (Nat×AV)} {h:List (Nat×xM)} {dr:Bool} {fs:List FP}
def qV {u:St->Prop} (z:u st):yP P F m ops false [] st fs (λ_ s=>u s):=⟨zr z⟩
def WC {u:St->Prop} (hc:KX l (NF l) fs.reverse=true) (z:u st):yP P F m ops true [] st fs (λfs s=>KX l (NF l) fs.reverse=true/\u s):=⟨⟨[],st,rfl,hc,z⟩⟩
def IU {o:Oper} {e:NG} (u:e.on=true) (A:o.guard=none) (E:wZ P st o.op e.v e.d e.r e.nw) (C:∀k,k∈e.nw->zD st.h k=none) (hd:vZ e.d=true) (B:∀t,o.dst=some t->t<m)
 (I:st'=st.app o.dst e.v e.d) (hk:yP P F m ops dr rest st' (e.fp::fs) Q):yP P F m ops dr (o::rest) st fs Q:=by
 subst I
 cases dr with
 |false=>exact⟨uj A E C hd B (λt=>UE _ _ _ _ _) (funext λk=>YL _ _ _ _ _) hk.run⟩
 |true=>
  obtain⟨G,z,h1,h2⟩:=hk.run;refine⟨⟨e::G,z,⟨⟨hd,B,C,(λ_=>E),(λh=>by rw[u]at h;cases h),by rw[A];exact u⟩,h1⟩,?_⟩⟩;simpa using h2
section
variable {op:Op} {ty:Nat} {pos:String} {after:Array Edge} {t:Nat} {v:AV} {r nw:List Nat}
def wO (z:wZ P ⟨tm,h⟩ op v [] r []) (u:Nat.blt t m=true) (hk:yP P F m ops dr rest ⟨(t,v)::tm,h⟩ (⟨true,[],r⟩::fs) Q):yP P F m ops dr (⟨some t,op,ty,pos,after,none⟩::rest) ⟨tm,h⟩ fs Q:=
 IU (e:=⟨true,v,[],r,[]⟩) Z Z z yE Z (λj hj=>by cases hj;exact zAq u) Z hk
def qH {k:Nat} {e:xM} (A:wZ P ⟨tm,h⟩ op v [(k,e)] r nw) (u:Nat.blt t m=true) (z:nw.all (λj=>(zD h j).isNone)=true) (hd:vZ [(k,e)]=true) (hk:yP P F m ops dr rest ⟨(t,v)::tm,(k,e)::h⟩ (⟨true,k::nw,r⟩::fs) Q):
  yP P F m ops dr (⟨some t,op,ty,pos,after,none⟩::rest) ⟨tm,h⟩ fs Q:=
 IU (e:=⟨true,v,[(k,e)],r,nw⟩) Z Z A (λj hj=>by have:=zAm.1 z j hj;simpa using this) hd (λj hj=>by cases hj;exact zAq u) Z hk
def O8 {k:Nat} {e:xM} (z:wZ P ⟨tm,h⟩ op v [(k,e)] r nw) (u:nw.all (λj=>(zD h j).isNone)=true) (hd:vZ [(k,e)]=true) (hk:yP P F m ops dr rest ⟨tm,(k,e)::h⟩ (⟨true,k::nw,r⟩::fs) Q):yP P F m ops dr (⟨none,op,ty,pos,after,none⟩::rest) ⟨tm,h⟩ fs Q:=
 IU (e:=⟨true,v,[(k,e)],r,nw⟩) Z Z z (λj hj=>by have:=zAm.1 u j hj;simpa using this) hd (λj hj=>by cases hj) Z hk
def bX (A:wZ P ⟨tm,h⟩ op v d r nw) (u:Nat.blt t m=true) (z:nw.all (λj=>(zD h j).isNone)=true) (hd:vZ d=true) (hk:yP P F m ops dr rest ⟨(t,v)::tm,d++h⟩ (⟨true,yV d++nw,r⟩::fs) Q):
  yP P F m ops dr (⟨some t,op,ty,pos,after,none⟩::rest) ⟨tm,h⟩ fs Q:=
 IU (e:=⟨true,v,d,r,nw⟩) Z Z A (λj hj=>by have:=zAm.1 z j hj;simpa using this) hd (λj hj=>by cases hj;exact zAq u) Z hk
end
theorem KW.on {P:Program} {m:Nat} {ops:Array Oper} {d:Option Nat} {j:Nat} {e:NG} (z:XL ops j=some t) (hv:zL st.tm t= .s (.bool b)) (u:KW P m ops ⟨d,op,ty,pos,after,none⟩ st e):
 KW P m ops ⟨d,op,ty,pos,after,some (j,b)⟩ st e:=by grind [XL,zL,KW,gw]
def N8 {d:Option Nat} {j:Nat} (A:XL ops j=some t) (hv:zL st.tm t= .s (.bool b)) (hk:yP P F m ops dr (⟨d,op,ty,pos,after,none⟩::rest) st fs Q):
  yP P F m ops dr (⟨d,op,ty,pos,after,some (j,b)⟩::rest) st fs Q:=by
 cases dr with
 |false=>exact⟨zy A hv hk.run⟩
 |true=>
  obtain⟨u,z,h1,h2⟩:=hk.run
  cases u with
  |nil=>exact h1.elim
  |cons e u=>exact⟨⟨e::u,z,⟨h1.1.on A hv,h1.2⟩,h2⟩⟩
def E4 {d:Nat} {j:Nat} (A:XL ops j=some t) (hv:zL tm t= .s c) (hc:gw c b=false) (z:Nat.blt d m=true) (hk:yP P F m ops dr rest ⟨(d,.s undef)::tm,h⟩ (⟨false,[],[]⟩::fs) Q):
  yP P F m ops dr (⟨some d,op,ty,pos,after,some (j,b)⟩::rest) ⟨tm,h⟩ fs Q:=by
 cases dr with
 |false=>exact⟨yr A hv hc z hk.run⟩
 |true=>
  obtain⟨B,u,h1,h2⟩:=hk.run;refine⟨⟨⟨false,.s undef,[],[],[]⟩::B,u,⟨⟨rfl,(λj hj=>by cases hj;exact zAq z),by simp,(λh=>by cases h),(λ_=>⟨rfl,rfl⟩),t,c,A,hv,hc.symm⟩,h1⟩,?_⟩⟩;rw[zBc,List.reverse_cons,zA2];exact h2
def ur {t:Nat} {c:Bool} (hv:zL st.tm t= .s (.bool c)) (h1:c=true->yP P F m ops false l ⟨(t,.s (.bool true))::st.tm,st.h⟩ fs Q) (h2:c=false->yP P F m ops false l ⟨(t,.s (.bool false))::st.tm,st.h⟩ fs Q):yP P F m ops false l st fs Q:=⟨Sf hv (λh=>(h1 h).run) (λh=>(h2 h).run)⟩
def UH {d:Option Nat} {j t:Nat} {c:Bool} (u:XL ops j=some t) (hv:zL tm t= .s (.bool c)) (h1:c=true->yP P F m ops false (⟨d,op,ty,pos,after,some (j,b)⟩::rest) ⟨(t,.s (.bool true))::tm,h⟩ fs Q) (h2:c=false->yP P F m ops false (⟨d,op,ty,pos,after,some (j,b)⟩::rest) ⟨(t,.s (.bool false))::tm,h⟩ fs Q):
  yP P F m ops false (⟨d,op,ty,pos,after,some (j,b)⟩::rest) ⟨tm,h⟩ fs Q:=by
 have:=u;exact ur (st:=⟨tm,h⟩) hv h1 h2
section
variable {ty t:Nat} {pos:String} {after:Array Edge} {st:St} {g:Option (Nat×Bool)} {d:Option Nat}
def xJ {c:Operand} {u:Array Operand} {z:Array Nat} (hk:yP P F m ops dr (⟨some t,(.call ⟨.value c,u,z⟩),ty,pos,after,none⟩::rest) st fs Q):yP P F m ops dr (⟨some t,(.call ⟨.value c,u,z⟩),ty,pos,after,none⟩::rest) st fs Q:=hk
def vE {op:BinOp} {u:Nat} (hk:yP P F m ops dr (⟨some t,(.binOp op tx x y u),ty,pos,after,none⟩::rest) st fs Q):yP P F m ops dr (⟨some t,(.binOp op tx x y u),ty,pos,after,none⟩::rest) st fs Q:=hk
def xy (hk:yP P F m ops dr (⟨some t,(.indexAddr tx x y),ty,pos,after,none⟩::rest) st fs Q):yP P F m ops dr (⟨some t,(.indexAddr tx x y),ty,pos,after,none⟩::rest) st fs Q:=hk
def qr (hk:yP P F m ops dr (⟨some t,(.load tx x),ty,pos,after,none⟩::rest) st fs Q):yP P F m ops dr (⟨some t,(.load tx x),ty,pos,after,none⟩::rest) st fs Q:=hk
def wy (hk:yP P F m ops dr (⟨some t,(.fieldAddr tx x n),ty,pos,after,none⟩::rest) st fs Q):yP P F m ops dr (⟨some t,(.fieldAddr tx x n),ty,pos,after,none⟩::rest) st fs Q:=hk
def cS (hk:yP P F m ops dr (⟨none,(.store tx x y),ty,pos,after,none⟩::rest) st fs Q):yP P F m ops dr (⟨none,(.store tx x y),ty,pos,after,none⟩::rest) st fs Q:=hk
def NH {j:Nat} (hk:yP P F m ops dr (⟨d,op,ty,pos,after,some (j,b)⟩::rest) st fs Q):yP P F m ops dr (⟨d,op,ty,pos,after,some (j,b)⟩::rest) st fs Q:=hk
def zG (hk:yP P F m ops dr l st fs Q):yP P F m ops dr l st fs Q:=hk
end
def wB {Q:Exit->St->Prop} {id:Nat} (hk:yP P F m l.toArray false l st [] (λ_ s=>Q .normal s)):uG P F m (.region id l.toArray false) st Q:=Ya hk.run
theorem uW {Q:Exit->St->Prop} {id:Nat} (B:P.follows .mixedOrders=true) (hk:yP P F m l.toArray true l st [] (λfs s=>KX l (NF l) fs.reverse=true/\Q .normal s)):uG P F m (.region id l.toArray true) st Q:=by
 obtain⟨z,u,h1,h2,A⟩:=hk.run
 grind [KX,NF,bj]
end
section
variable {P:Program} {TT:List TI} {K0:List Nat} {F:Fr K0} {m:Nat} {ops:Array Oper} {rest:List Oper} {Q:List FP->St->Prop} {tm:List (Nat×AV)} {h:List (Nat×xM)} {dr:Bool} {fs:List FP}
variable {ty:Nat} {pos:String} {after:Array Edge} {t:Nat}
def Of {h:List (Nat×xM)} {t:Nat} (u:(zD h t).isNone=true): [t].all (λj=>(zD h j).isNone)=true:=by simpa using u
def IV (u:qI P TT) (hx:yW (zL tm) x= .fp xs i 0) (hT:TT[T]? =some ti) (z:ti.d.agg=true) (B:xs[i]? =some (.agg cs)) (A:Nat.beq ti.size (ln cs)=true):
  wZ P ⟨tm,h⟩ (.load T x) (.agg cs) [] [] []:=by
 have e:=zA3 A;refine ZI u hx B hT ?_;unfold AS;rw[z,e];simp[AV.cells,zDf (zAe (ln cs))]
def IW (u:qI P TT) {y:AV} (hx:yW (zL tm) x= .fp xs i off) (hT:TT[T]? =some ti) (z:ti.d.agg=false) (A:xs[i]? =some y) (hv:y.cells[off]? =some v):
  wZ P ⟨tm,h⟩ (.load T x) v [] [] []:=by
 refine ZI u hx A hT ?_;unfold AS;rw[z];exact hv
def LR (u:qI P TT) (hx:yW (zL tm) x= .ptr k i 0) (hk:zD h k=some (.arr sz xs sl)) (hT:TT[T]? =some ti) (z:ti.d.agg=true) (B:xs[i]? =some (.agg cs)) (A:Nat.beq ti.size (ln cs)=true):
  wZ P ⟨tm,h⟩ (.load T x) (.agg cs) [] [k] []:=by
 have e:=zA3 A;refine eO u hx hk B hT ?_;unfold AS;rw[z,e];simp[AV.cells,zDf (zAe (ln cs))]
def LS (u:qI P TT) {y:AV} (hx:yW (zL tm) x= .ptr k i off) (hk:zD h k=some (.arr sz xs sl)) (hT:TT[T]? =some ti) (z:ti.d.agg=false) (A:xs[i]? =some y) (hv:y.cells[off]? =some v):
  wZ P ⟨tm,h⟩ (.load T x) v [] [k] []:=by
 refine eO u hx hk A hT ?_;unfold AS;rw[z];exact hv
def gH (E:qI P TT) (R:yW (zL tm) s= .s (.slice none 0 0)) (hx:yW (zL tm) x=xv) (hT:TT[T]? =some ti) (hd:ti.d= .slice e) (G:TT[e]? =some te)
 (B:Oa (zD h) xv=some ys) (A:∀y,ys[0]? =some y->ln y.cells=te.size) (O:Nat.ble 1 te.size=true) (hb:Nat.ble te.bytes 65536=true) (S:Nat.beq (ln te.zero) te.size=true) (M:ln ys<=1073741824) (I:Nat.blt t m=true) (u:(zD h t).isNone=true)
 (z:te.size=sz) (hk:yP P F m ops dr rest ⟨(t,.ref t 0 (ln ys))::tm,(t,.arr sz ys false)::h⟩ (⟨true,[t,t],LI xv⟩::fs) Q) (C:te.zero.all (·.oneCell')=true:=by rfl):yP P F m ops dr (⟨some t,.call ⟨.builtin .append, #[s,x], #[T,T]⟩,ty,pos,after,none⟩::rest) ⟨tm,h⟩ fs Q:=by
 subst z;exact qH (nw:=[t]) (ZK E t R hx hT hd G B A O hb S C M) I (Of u) Z hk
def vd (S:qI P TT) {n:Nat} {kx ky:IntKind} {nx R:Int} {z:AV} (hx:yW (zL tm) x= .s (.int kx nx)) (Y:yW (zL tm) y= .s (.int ky R)) (hT:TT[T]? =some ti) (hd:ti.d= .slice e) (U:TT[e]? =some te)
 (hb:Nat.ble te.bytes 65536=true) (W:Nat.ble 1 te.size=true) (O:Nat.beq (ln te.zero) te.size=true) (I:te.zero.all (·.oneCell')=true) (M:Nat.beq (kQ te).cells.length te.size=true) (A:(kQ te).cells=te.zero.map .s) (hz:kQ te=z)
 (C:nx=(n:Int)) (E:nx<=R) (u:R<=1073741824) (V:Nat.blt t m=true) (B:(zD h t).isNone=true)
 (G:te.size=sz) (hk:yP P F m ops dr rest ⟨(t,.ref t 0 n)::tm,(t,.arr sz (List.replicate n z) false)::h⟩ (⟨true,[t,t],[]⟩::fs) Q):yP P F m ops dr (⟨some t,.makeSlice T x y,ty,pos,after,none⟩::rest) ⟨tm,h⟩ fs Q:=by
 subst G hz;exact qH (nw:=[t]) (XQ S t hx Y hT hd U C E u hb W O I M A) V (Of B) Z hk
def kN (E:qI P TT) {k len:Nat} {U:Bool} (R:yW (zL tm) s= .ref k 0 len) (hk:zD h k=some (.arr sz xs ⟨U,false⟩)) (hx:yW (zL tm) x=xv) (hT:TT[T]? =some ti) (hd:ti.d= .slice e) (G:TT[e]? =some te)
 (B:Oa (zD h) xv=some ys) (z:Nat.beq sz te.size=true) (hb:Nat.ble te.bytes 65536=true) (S:Nat.beq (ln te.zero) te.size=true) (u:len=ln xs) (A:∀y,ys[0]? =some y->ln y.cells=sz) (M:ln xs+ln ys<=1073741824) (I:Nat.blt t m=true)
 (O:yP P F m ops dr rest ⟨(t,.ref k 0 (xs++ys).length)::tm,(k,.arr sz (xs++ys) true)::h⟩ (⟨true,[k],k::LI xv⟩::fs) Q) (C:te.zero.all (·.oneCell')=true:=by rfl):yP P F m ops dr (⟨some t,.call ⟨.builtin .append, #[s,x], #[T,T]⟩,ty,pos,after,none⟩::rest) ⟨tm,h⟩ fs Q:=by
 subst u;exact qH (nw:=[]) (NN E R hk hx hT hd G B A z hb S C M) I Z Z O
def kF (E:qI P TT) {k len:Nat} (R:yW (zL tm) s= .ref k 0 len) (hk:zD h k=some (.arr sz xs sl)) (hx:yW (zL tm) x=xv) (hT:TT[T]? =some ti) (hd:ti.d= .slice e) (G:TT[e]? =some te)
 (B:UN true (zD h) xv=some ys) (z:Nat.beq sz te.size=true) (hb:Nat.ble te.bytes 65536=true) (S:Nat.beq (ln te.zero) te.size=true) (u:len=ln xs) (A:∀y,ys[0]? =some y->ln y.cells=sz) (M:ln xs+ln ys<=1073741824) (I:Nat.blt t m=true)
 (O:yP P F m ops dr rest ⟨(t,.ref k 0 (xs++ys).length)::tm,(k,.arr sz (xs++ys) ⟨true,true⟩)::h⟩ (⟨true,[k],k::LI xv⟩::fs) Q) (C:te.zero.all (·.oneCell')=true:=by rfl):yP P F m ops dr (⟨some t,.call ⟨.builtin .append, #[s,x], #[T,T]⟩,ty,pos,after,none⟩::rest) ⟨tm,h⟩ fs Q:=by
 subst u;exact qH (nw:=[]) (QW E R hk hx hT hd G B A z hb S C M) I Z Z O
section
variable {op:BinOp} {tx t2:Nat} {x y:Operand} {k:IntKind} {a b:Int} (hx:yW (zL tm) x= .s (.int k a)) (hy:yW (zL tm) y= .s (.int k b))
include hx hy
def aj (hh:a<b):wZ P ⟨tm,h⟩ (.binOp .lss tx x y t2) (.s (.bool true)) [] [] []:=by have:=HF (P:=P) (st:=⟨tm,h⟩) (tx:=tx) (ty:=t2) hx hy;rwa [zAc hh]at this
def pj (hh:¬a<b):wZ P ⟨tm,h⟩ (.binOp .lss tx x y t2) (.s (.bool false)) [] [] []:=by have:=HF (P:=P) (st:=⟨tm,h⟩) (tx:=tx) (ty:=t2) hx hy;rwa [zAb hh]at this
def nj (hh:a<=b):wZ P ⟨tm,h⟩ (.binOp .leq tx x y t2) (.s (.bool true)) [] [] []:=by have:=HG (P:=P) (st:=⟨tm,h⟩) (tx:=tx) (ty:=t2) hx hy;rwa [zAc hh]at this
def mj (hh:¬a<=b):wZ P ⟨tm,h⟩ (.binOp .leq tx x y t2) (.s (.bool false)) [] [] []:=by have:=HG (P:=P) (st:=⟨tm,h⟩) (tx:=tx) (ty:=t2) hx hy;rwa [zAb hh]at this
def lj (hh:b<a):wZ P ⟨tm,h⟩ (.binOp .gtr tx x y t2) (.s (.bool true)) [] [] []:=by have:=HI (P:=P) (st:=⟨tm,h⟩) (tx:=tx) (ty:=t2) hx hy;rwa [zAc hh]at this
def rj (hh:¬b<a):wZ P ⟨tm,h⟩ (.binOp .gtr tx x y t2) (.s (.bool false)) [] [] []:=by have:=HI (P:=P) (st:=⟨tm,h⟩) (tx:=tx) (ty:=t2) hx hy;rwa [zAb hh]at this
def sj (hh:b<=a):wZ P ⟨tm,h⟩ (.binOp .geq tx x y t2) (.s (.bool true)) [] [] []:=by have:=HJ (P:=P) (st:=⟨tm,h⟩) (tx:=tx) (ty:=t2) hx hy;rwa [zAc hh]at this
def tj (hh:¬b<=a):wZ P ⟨tm,h⟩ (.binOp .geq tx x y t2) (.s (.bool false)) [] [] []:=by have:=HJ (P:=P) (st:=⟨tm,h⟩) (tx:=tx) (ty:=t2) hx hy;rwa [zAb hh]at this
def ij (hh:a=b):wZ P ⟨tm,h⟩ (.binOp .eql tx x y t2) (.s (.bool true)) [] [] []:=by have:=HC (P:=P) (st:=⟨tm,h⟩) (tx:=tx) (ty:=t2) hx hy;rwa [show(a==b)=true by simpa using hh]at this
def Zj (hh:a≠b):wZ P ⟨tm,h⟩ (.binOp .eql tx x y t2) (.s (.bool false)) [] [] []:=by have:=HC (P:=P) (st:=⟨tm,h⟩) (tx:=tx) (ty:=t2) hx hy;rwa [show(a==b)=false by simpa using hh]at this
def Yj (hh:a≠b):wZ P ⟨tm,h⟩ (.binOp .neq tx x y t2) (.s (.bool true)) [] [] []:=by have:=HE (P:=P) (st:=⟨tm,h⟩) (tx:=tx) (ty:=t2) hx hy;rwa [show(a != b)=true by simpa using hh]at this
def Xj (hh:a=b):wZ P ⟨tm,h⟩ (.binOp .neq tx x y t2) (.s (.bool false)) [] [] []:=by have:=HE (P:=P) (st:=⟨tm,h⟩) (tx:=tx) (ty:=t2) hx hy;rwa [show(a != b)=false by simpa using hh]at this
end
end
def Jh {β:Type} (v:AV) (K:AV->Option β):Option β:=match v with
 | .s v=>K (.s v)
 | .ptr k i o=>K (.ptr k i o)
 | .agg cs=>K (.agg cs)
 | .sl b xs=>K (.sl b xs)
 | .slc b xs=>K (.slc b xs)
 | .ref k o n=>K (.ref k o n)
 | .fp xs i o=>K (.fp xs i o)
 | .fn f cs=>K (.fn f cs)
 | .tup u=>K (.tup u)
 | .bot=>K .bot
 | .gh n=>K (.gh n)
 | .fm o p=>K (.fm o p)
theorem ZG {β:Type} (v:AV) (K:AV->Option β):Jh v K=K v:=by cases v<;>rfl
def QS {β:Type}:List AV->(List AV->Option β)->Option β
 | [],K=>K []
 |x::r,K=>Jh x λx=>QS r λr=>K (x::r)
theorem gI {β:Type}:∀(l:List AV) (K:List AV->Option β),QS l K=K l
 | [],_=>rfl
 |x::r,K=>by rw[QS,ZG,gI r]
abbrev A9:=AV×List (Nat×xM)×List Nat×List Nat
def vy (ti:TI) (u:List AV) (off:Nat) (r:List Nat):Option A9:=
 bif ti.d.agg then(bif Nat.ble (off+ti.size) (ln u) then QS ((u.drop off).take ti.size) λl=>some (.agg l,[],r,[])else none)
 else match u[off]? with
  |some v=>Jh v λv=>some (v,[],r,[])
  |none=>none
def ud:BinOp->Bool
 | .eql| .neq| .lss| .leq| .gtr| .geq=>true
 |_=>false
def cI:Nat->List Nat->Bool
 |_,[]=>true
 |n,x::r=>Nat.beq x n&&cI (n+1) r
def exec (TT:List TI) (tm:List (Nat×AV)) (h:List (Nat×xM)) (t:Nat):Op->Option A9
 | .move x=>Jh (yW (zL tm) x) λv=>some (v,[],[],[])
 | .assign x=>Jh (yW (zL tm) x) λv=>some (v,[],[],[])
 | .pick c x y=>match yW (zL tm) c with
  | .s (.bool b)=>bif b then Jh (yW (zL tm) x) λv=>some (v,[],[],[])else Jh (yW (zL tm) y) λv=>some (v,[],[],[])
  |_=>none
 | .extract x i=>match yW (zL tm) x with
  | .tup B=>match B[i]? with
   |some v=>Jh v λv=>some (v,[],[],[])
   |none=>none
  |_=>none
 | .box _ x=>match yW (zL tm) x with
  | .agg cs=>some (.ptr t 0 0,[(t,.box cs)],[],[t])
  |v=>bif v.one then Jh v λv=>some (.ptr t 0 0,[(t,.box [v])],[],[t])else none
 | .alloc T=>match TT[T]? with
  |some ti=>bif ti.zero.all (·.oneCell')then QS (ti.zero.map AV.s) λl=>some (.ptr t 0 0,[(t,.box l)],[],[t])else none
  |none=>none
 | .load T x=>match yW (zL tm) x,TT[T]? with
  | .ptr k 0 off,some ti=>match zD h k with
   |some (.box cs)=>vy ti cs off [k]
   |some (.arr _ xs _)=>match xs[0]? with
    |some y=>vy ti y.cells off [k]
    |none=>none
   |_=>none
  | .ptr k (i+1) off,some ti=>match zD h k with
   |some (.arr _ xs _)=>match xs[i+1]? with
    |some y=>vy ti y.cells off [k]
    |none=>none
   |_=>none
  | .fp xs i off,some ti=>match xs[i]? with
   |some y=>vy ti y.cells off []
   |none=>none
  |_,_=>none
 | .store T p x=>match yW (zL tm) p,TT[T]? with
  | .ptr k 0 off,some ti=>match zD h k with
   |some (.box cs)=>Jh (yW (zL tm) x) λv=>bif v.ok&&(Nat.beq (ln v.cells) ti.size&&Nat.ble (off+ti.size) (ln cs))then QS (UI cs off v.cells) λl=>some (.bot,[(k,.box l)],[k],[])else none
   |_=>none
  |_,_=>none
 | .fieldAddr T x f=>match yW (zL tm) x,TT[T]? with
  | .ptr k 0 off,some ti=>match zD h k,ti.d with
   | some (.box _),.str fs=>match fs[f]? with
    |some (o,ft)=>match TT[ft]? with
     |some z=>bif Nat.ble 1 z.size then some (.ptr k 0 (off+o),[],[k],[])else none
     |none=>none
    |none=>none
   |_,_=>none
  |_,_=>none
 | .field T x f=>match yW (zL tm) x,TT[T]? with
  | .agg cs,some ti=>match ti.d with
   | .str fs=>match fs[f]? with
    |some (o,ft)=>match TT[ft]? with
     |some z=>vy z cs o []
     |none=>none
    |none=>none
   |_=>none
  |_,_=>none
 | .nilCheck x=>match yW (zL tm) x with
  | .ptr k 0 off=>match zD h k with
   |some (.box _)=>some (.ptr k 0 off,[],[k],[])
   |_=>none
  |_=>none
 | .unOp .not _ x=>match yW (zL tm) x with
  | .s (.bool b)=>some (.s (.bool !b),[],[],[])
  |_=>none
 | .makeFunc (.func f) ⟨[]⟩ cap=>QS (cap.toList.map (yW (zL tm))) λl=>some (.fn f l,[],[],[])
 | .build T u=>match TT[T]? with
  | some ti=>match ti.d with
   | .str fs=>bif ti.zero.all (·.oneCell')then(match Na TT fs with
    |some A=>match NP (A[·]?) (ti.zero.map .s) (bG ⟨tm,h⟩ u)with
     |some cs=>QS cs λl=>some (.agg l,[],[],[])
     |none=>none
    |none=>none)else none
   | .arr _ e=>bif ti.zero.all (·.oneCell')then(match TT[e]? with
    |some te=>match NP (λi=>some (i*te.size,te.size)) (ti.zero.map .s) (bG ⟨tm,h⟩ u)with
     |some cs=>QS cs λl=>some (.agg l,[],[],[])
     |none=>none
    |none=>none)else none
   |_=>none
  |none=>none
 | .buildSlice T len u=>match TT[T]? with
  | some ti=>match ti.d with
   | .slice e=>match TT[e]? with
    | some te=>bif cI 0 (u.toList.map (·.1))&&(Nat.beq (ln u.toList) len&&(Nat.ble 1 te.size&&(Nat.ble (len*te.size) 65536&&Nat.beq (ln te.zero) te.size)))then
      QS (u.toList.map λp=>yW (zL tm) p.2) λxs=>bif xs.all (λx=>Nat.beq (ln x.cells) te.size&&(x.ok&&x.nokey))then some (.ref t 0 len,[(t,.arr te.size xs false)],[],[t])else none else none
    |none=>none
   |_=>none
  |none=>none
 | .call ⟨.builtin .len,⟨[x]⟩,⟨[T]⟩⟩=>match TT[T]? with
  | some ti=>match ti.d with
   | .slice _=>match yW (zL tm) x with
    | .sl _ xs=>some (.s (.int .i64 (ln xs)),[],[],[])
    | .ref k _ len=>match zD h k with
     |some (.arr _ _ _)=>some (.s (.int .i64 len),[],[k],[])
     |_=>none
    | .s (.slice _ n _)=>some (.s (.int .i64 n),[],[],[])
    |_=>none
   |_=>none
  |none=>none
 | .call ⟨.builtin .max,⟨[x,y]⟩,⟨[_,_]⟩⟩=>match yW (zL tm) x,yW (zL tm) y with
  | .s (.int .i64 m),.s (.int .i64 n)=>some (.s (.int .i64 (max m n)),[],[],[])
  |_,_=>none
 | .call ⟨.builtin .min,⟨[x,y]⟩,⟨[_,_]⟩⟩=>match yW (zL tm) x,yW (zL tm) y with
  | .s (.int .i64 m),.s (.int .i64 n)=>some (.s (.int .i64 (min m n)),[],[],[])
  |_,_=>none
 |_=>none
section
variable {P:Program} {TT:List TI} (hP:qI P TT) {tm:List (Nat×AV)} {h:List (Nat×xM)} {t:Nat}
theorem NI {u:List AV} {v:AV} {z:List Nat} (A:vy ti u off r=some (v,d,z,nw)):AS ti.d.agg ti.size u off=some v/\d=[]/\z=r/\nw=[]:=by grind [vy,AS,gI,Nat.ble,Option.some.injEq,Prod.mk.injEq,ZG]
theorem WE:∀(l:List Nat) (n:Nat),cI n l=true->∀(j:Nat) x,l[j]? =some x->x=n+j
 | [],_,_,_,_,h=>by simp at h
 |y::r,n,u,0,x,h=>by simp at h;subst h;simp[cI]at u;omega
 |y::r,n,u,j+1,x,h=>by
  simp only[cI,zAi]at u;have:=WE r (n+1) u.2 j x NJ;omega
include hP in
theorem WF:∀{op:Op} {v:AV} {d:List (Nat×xM)} {r nw:List Nat},exec TT tm h t op=some (v,d,r,nw)->wZ P ⟨tm,h⟩ op v d r nw:=by
 intro op v d r nw z;unfold exec at z;split at z
 .grind [exec,ZG,Option.some.injEq,Prod.mk.injEq,Nj]
 .grind [exec,ZG,Option.some.injEq,Prod.mk.injEq,Ta]
 .grind [exec,ZG,Option.some.injEq,Prod.mk.injEq,Mj]
 .grind [exec,ZG,Option.some.injEq,Prod.mk.injEq,DD]
 .rename_i T x;generalize hx:yW (zL tm) x=u at z;by_cases W:u.isAgg=true
  .cases u<;>simp[AV.isAgg]at W
   simp only[zBw,zCp]at z;obtain⟨rfl,rfl,rfl,rfl⟩:=z;exact eK (v:= .agg _) t hx Z
  .have B:(bif u.one then some (AV.ptr t 0 0,[(t,xM.box [u])],([]:List Nat),[t])else none)=some (v,d,r,nw):=by
    cases u<;>first|exact z|(simp[AV.isAgg]at W)
   cases R:u.one with
   |false=>rw[R]at B;cases B
   |true=>
    rw[R]at B;simp only[zBk,zBw,zCp]at B;obtain⟨rfl,rfl,rfl,rfl⟩:=B
    have ok:u.ok=true:=by cases u<;>first|rfl|exact R
    have e:u.cells=[u]:=by cases u<;>first|rfl|(simp[AV.one]at R)
    grind [exec,eK]
 .split at z
  .rename_i ti hT
   cases A:ti.zero.all (·.oneCell')with
   |false=>simp[A]at z
   |true=>
    simp only[A,zBk,gI,zBw,zCp]at z;obtain⟨rfl,rfl,rfl,rfl⟩:=z;exact gU hP t hT A
  .cases z
 .split at z
  .rename_i k off ti hx hT;split at z
   .rename_i cs hk;obtain⟨E,rfl,rfl,rfl⟩:=NI z;exact HN hP hx hk hT E
   .rename_i xs _ hk;split at z
    .rename_i y C;obtain⟨E,rfl,rfl,rfl⟩:=NI z;exact eO hP hx hk C hT E
    .cases z
   .cases z
  .rename_i k i off ti hx hT;split at z
   .rename_i xs _ hk;split at z
    .rename_i y C;obtain⟨E,rfl,rfl,rfl⟩:=NI z;exact eO hP hx hk C hT E
    .cases z
   .cases z
  .rename_i xs i off ti hx hT;split at z
   .rename_i y C;obtain⟨E,rfl,rfl,rfl⟩:=NI z;exact ZI hP hx C hT E
   .cases z
  .cases z
 .rename_i T p x;split at z
  .rename_i k off ti hp hT;split at z
   .rename_i cs hk;rw[ZG]at z
    cases hc:((yW (zL tm) x).ok&&(Nat.beq (yW (zL tm) x).cells.length ti.size&&Nat.ble (off+ti.size) (ln cs)))with
    |false=>rw[hc]at z;cases z
    |true=>
     rw[hc]at z;simp only[zBk,gI,zBw,zCp]at z;obtain⟨rfl,rfl,rfl,rfl⟩:=z;simp only[zAi]at hc;exact LT hP hp Z hk hT hc.1 hc.2.1 hc.2.2
   .cases z
  .cases z
 .split at z
  .rename_i k off ti hx hT;split at z
   .rename_i cs fs hk hd;split at z
    .rename_i o ft G;split at z
     .rename_i Y I
      cases A:Nat.ble 1 Y.size with
      |false=>simp[A]at z
      |true=>
       simp only[A,zBk,zBw,zCp]at z;obtain⟨rfl,rfl,rfl,rfl⟩:=z;exact UJ hP hx hk hT hd G I A
     .cases z
    .cases z
   .cases z
  .cases z
 .split at z
  .rename_i cs ti hx hT;split at z
   .rename_i fs hd;split at z
    .rename_i o ft G;split at z
     .rename_i Y I;obtain⟨E,rfl,rfl,rfl⟩:=NI z;exact Hf hP hx hT hd G I E
     .cases z
    .cases z
   .cases z
  .cases z
 .split at z
  .rename_i hx;split at z
   .rename_i hk;simp only[zBw,zCp]at z;obtain⟨rfl,rfl,rfl,rfl⟩:=z;exact SH hx hk
   .cases z
  .cases z
 .split at z
  .rename_i hx;simp only[zBw,zCp]at z;obtain⟨rfl,rfl,rfl,rfl⟩:=z;exact Yr hx
  .cases z
 .simp only[gI,zBw,zCp]at z;obtain⟨rfl,rfl,rfl,rfl⟩:=z;exact HL
 .split at z
  .rename_i ti hT;split at z
   .rename_i fs hd
    cases A:ti.zero.all (·.oneCell')with
    |false=>simp[A]at z
    | true=>
     simp only[A,zBk]at z;split at z
     .rename_i pl U;split at z
      .rename_i cs G;simp only[gI,zBw,zCp]at z;obtain⟨rfl,rfl,rfl,rfl⟩:=z;exact Gf hP hT hd A U G
      .cases z
     .cases z
   .rename_i e hd
    cases A:ti.zero.all (·.oneCell')with
    |false=>simp[A]at z
    | true=>
     simp only[A,zBk]at z;split at z
     .rename_i te M;split at z
      .rename_i cs G;simp only[gI,zBw,zCp]at z;obtain⟨rfl,rfl,rfl,rfl⟩:=z;exact LU hP hT hd M A G
      .cases z
     .cases z
   .cases z
  .cases z
 .split at z
  .rename_i ti hT;split at z
   .rename_i e hd;split at z
    .rename_i T len S _ _ _ te M;rw[gI]at z
     cases hc:(cI 0 (S.toList.map (·.1))&&(Nat.beq (ln S.toList) len&&(Nat.ble 1 te.size&&(Nat.ble (len*te.size) 65536&&Nat.beq (ln te.zero) te.size))))with
     |false=>rw[hc]at z;cases z
     | true=>
      rw[hc]at z;simp only[zBk]at z;generalize O:(S.toList.map λp=>yW (zL tm) p.2)=xs at z
      cases V:xs.all (λx=>Nat.beq (ln x.cells) te.size&&(x.ok&&x.nokey))with
      |false=>simp[V]at z
      | true=>
       simp only[V,zBk,zBw,zCp]at z;obtain⟨rfl,rfl,rfl,rfl⟩:=z;simp only[zAi]at hc;obtain⟨c1,c2,c3,c4,c5⟩:=hc;refine xD hP t hT hd M c3 ?_ (by rw[<-O];simpa using c2) V c4 c5;rw[<-O];apply zBe;intro j;simp only[bG,zAh,zD8,zBu]
       cases hj:S.toList[j]? with
       |none=>simp
       |some p=>
        have:=WE _ 0 c1 j p.1 (by simp[hj]);simp[this]
    .cases z
   .cases z
  .cases z
 .split at z
  .rename_i ti hT;split at z
   .rename_i hd;split at z
    .rename_i hx;simp only[zBw,zCp]at z;obtain⟨rfl,rfl,rfl,rfl⟩:=z;exact Pa hP hx hT hd
    .rename_i hx;split at z
     .rename_i hk;simp only[zBw,zCp]at z;obtain⟨rfl,rfl,rfl,rfl⟩:=z;exact DI hP hx hk hT hd
     .cases z
    .rename_i hx;simp only[zBw,zCp]at z;obtain⟨rfl,rfl,rfl,rfl⟩:=z;exact DJ hP hx hT hd
    .cases z
   .cases z
  .cases z
 .split at z
  .rename_i hx C;simp only[zBw,zCp]at z;obtain⟨rfl,rfl,rfl,rfl⟩:=z;exact Wr hx C
  .cases z
 .split at z
  .rename_i hx C;simp only[zBw,zCp]at z;obtain⟨rfl,rfl,rfl,rfl⟩:=z;exact Vr hx C
  .cases z
 .cases z
end
def Wj:BinOp->Int->Int->Prop
 | .eql,a,b=>a=b
 | .neq,a,b=>a≠b
 | .lss,a,b=>a<b
 | .leq,a,b=>a<=b
 | .gtr,a,b=>b<a
 | .geq,a,b=>b<=a
 |_,_,_=>False
def kL:BinOp->Int->Int->Bool
 | .eql,a,b=>a==b
 | .neq,a,b=>a != b
 | .lss,a,b=>decide (a<b)
 | .leq,a,b=>decide (a<=b)
 | .gtr,a,b=>decide (b<a)
 | .geq,a,b=>decide (b<=a)
 |_,_,_=>false
section
variable {P:Program} {TT:List TI} {K0:List Nat} {F:Fr K0} {m:Nat} {ops:Array Oper} {rest:List Oper} {Q:List FP->St->Prop} {tm:List (Nat×AV)} {h:List (Nat×xM)} {dr:Bool} {fs:List FP}
variable {ty:Nat} {pos:String} {after:Array Edge} {t:Nat}
def vT (u:qI P TT) {v:AV} (z:exec TT tm h t op=some (v,[],r,[])) (A:Nat.blt t m=true) (hk:yP P F m ops dr rest ⟨(t,v)::tm,h⟩ (⟨true,[],r⟩::fs) Q):
 yP P F m ops dr (⟨some t,op,ty,pos,after,none⟩::rest) ⟨tm,h⟩ fs Q:=wO (WF u z) A hk
def bY (u:qI P TT) {v:AV} {k:Nat} {e:xM} (z:exec TT tm h t op=some (v,[(k,e)],r,nw)) (A:Nat.blt t m=true) (B:nw.all (λj=>(zD h j).isNone)=true) (hd:vZ [(k,e)]=true)
 (hk:yP P F m ops dr rest ⟨(t,v)::tm,(k,e)::h⟩ (⟨true,k::nw,r⟩::fs) Q):yP P F m ops dr (⟨some t,op,ty,pos,after,none⟩::rest) ⟨tm,h⟩ fs Q:=qH (WF u z) A B hd hk
def cJ (u:qI P TT) {v:AV} {k:Nat} {e:xM} (z:exec TT tm h 0 op=some (v,[(k,e)],r,nw)) (A:nw.all (λj=>(zD h j).isNone)=true) (hd:vZ [(k,e)]=true)
 (hk:yP P F m ops dr rest ⟨tm,(k,e)::h⟩ (⟨true,k::nw,r⟩::fs) Q):yP P F m ops dr (⟨none,op,ty,pos,after,none⟩::rest) ⟨tm,h⟩ fs Q:=O8 (WF u z) A hd hk
section
variable {op:BinOp} {tx t2:Nat} {x y:Operand} {k:IntKind} {a b:Int} (hop:ud op=true) (hx:yW (zL tm) x= .s (.int k a)) (hy:yW (zL tm) y= .s (.int k b))
include hop hx hy
def jr:wZ P ⟨tm,h⟩ (.binOp op tx x y t2) (.s (.bool (kL op a b))) [] [] []:=by
 cases op<;>first
  |exact HC hx hy
  |exact HE hx hy
  |exact HF hx hy
  |exact HG hx hy
  |exact HI hx hy
  |exact HJ hx hy
  |(simp[ud]at hop)
def Nf (hh:Wj op a b):wZ P ⟨tm,h⟩ (.binOp op tx x y t2) (.s (.bool true)) [] [] []:=by
 cases op<;>first
  |exact ij hx hy hh
  |exact Yj hx hy hh
  |exact aj hx hy hh
  |exact nj hx hy hh
  |exact lj hx hy hh
  |exact sj hx hy hh
  |(simp[ud]at hop)
def Mf (hh:¬Wj op a b):wZ P ⟨tm,h⟩ (.binOp op tx x y t2) (.s (.bool false)) [] [] []:=by
 cases op<;>first
  |exact Zj hx hy hh
  |exact Xj hx hy (by simpa [Wj]using hh)
  |exact pj hx hy hh
  |exact mj hx hy hh
  |exact rj hx hy hh
  |exact tj hx hy hh
  |(simp[ud]at hop)
end
end
def KZ (H:jW X h β w) {K:Nat} (C:h K=none) (G:1<=sz):xX X w h β w (over [(K,.arr sz [] true)] h) (cT β K []):=
 xX.step H K _ _ (zAe _) (λ_ _ _=>rfl) Z Z Z (λb n u=>by simp at u) (λ_ _ _=>rfl) (λe A=>by rw[C]at A;cases A) (λE=>⟨G,by simp,λh=>absurd Z h,λi y z=>by simp at z,
  λb n r B=>by rw[yJ]at B;simp at B,λ_ _=>undef,λi y j v z _=>by simp at z,λi j hi _=>by simp at hi,λb n u=>by rw[yJ]at u;simp at u⟩)
def cK (hd:vZ d=true) (A:∀k,h k≠some .dead):∀k,over d h k≠some .dead:=λk=>by
 unfold over;split
 .rename_i e z;intro u;cases u;exact qL hd z
 .exact A k
section
variable {P:Program} {K0:List Nat} {F:Fr K0} {m:Nat} {tm:List (Nat×AV)} {h:List (Nat×xM)}
theorem wV.virt (H:wV F m ⟨tm,h⟩ a w) (t K sz:Nat) (hv:zL tm t= .s (.slice none 0 0)) (I:(zD h K).isNone=true) (O:Nat.ble 1 sz=true):wV F m ⟨(t,.ref K 0 0)::tm,(K,.arr sz [] true)::h⟩ a w:=by
 obtain⟨⟨X,β,M,z,A,B,E,C⟩,S,gs,hl⟩:=H;have hk:zD h K=none:=by simpa using I
 have G:=KZ z hk (zAq O);have u:∀k,over [(K,.arr sz [] true)] (zD h) k≠some .dead:=cK Z S
 have R:TY F m (zL ((t,.ref K 0 0)::tm)) (over [(K,.arr sz [] true)] (zD h)) a w:=by
  refine⟨⟨X,_,M,G.hok,λj=>?_,B.goes G u (G.lives z u),λi hi=>?_,C.goes z G⟩,u,gs,hl⟩
  .rw[xL];split
   .rename_i hj;subst hj;have:=A j;rw[hv]at this;rw[this.s_inv];exact .ref0 K 0 sz [] true none (qO _ _ _) (zAe _)
   .exact(A j).evo G.evo
  .rw[xL]at hi;split at hi
   .cases hi
   .exact F.go G (E i hi)
 unfold wV;dsimp only;rw[show zD ((K,.arr sz [] true)::h)=over [(K,.arr sz [] true)] (zD h)from vQ [(K,.arr sz [] true)] h];exact R
theorem wV.virtB (H:wV F m ⟨tm,h⟩ a w) (k i K sz:Nat) (hk:zD h k=some (.box cs)) (hv:cs[i]? =some (.s (.slice none 0 0))) (hK:(zD h K).isNone=true) (hp:Nat.ble 1 sz=true):wV F m ⟨tm,(k,.box (cs.set i (.ref K 0 0)))::(K,.arr sz [] true)::h⟩ a w:=by
 obtain⟨⟨X,β,hX,O,Y,KK,hJ,hD⟩,nd,gs,hl⟩:=H;have I:zD h K=none:=by simpa using hK
 have G:=KZ O I (zAq hp);have z:∀k,over [(K,.arr sz [] true)] (zD h) k≠some .dead:=cK Z nd;have u:k≠K:=λe=>by rw[e,I]at hk;cases hk
 have C:over [(K,.arr sz [] true)] (zD h) k=some (.box cs):=by rw[<-vQ,zD7,xV,hW u];exact hk
 have M:=G.hok;have hβ:cT β K [] k=β k:=by unfold cT;rw[hW u]
 have B:xX X w _ (cT β K []) w (over [(k,.box (cs.set i (.ref K 0 0)))] (over [(K,.arr sz [] true)] (zD h))) (cT (cT β K []) k (cT β K [] k)):=
  xX.step M k (.box (cs.set i (.ref K 0 0))) (cT β K [] k) (zAe _) (λ_ _ _=>rfl) Z Z Z (λb n U=> .inl ⟨n,U⟩) (λ_ _ _=>rfl) (λe W=>by rw[C]at W;cases W;exact .inr ⟨⟨_,rfl⟩,λb n U=>U⟩) (λE=>by
   obtain⟨b,c,el,h1,h2,h3,h4,V⟩:=M.ent k _ C;refine⟨b,c,el,by rw[yJ];exact h1,h2,by simpa using h3,h4,λj v hj=>?_⟩;rw[zDu]at hj;split at hj
   .rename_i S;subst S;split at hj
    .injection hj with hj
     subst hj;have h6:=V i _ hv;rw[h6.s_inv];refine .ref0 K 0 sz [] true none ?_ (zAe _);rw[show over [(k,xM.box (cs.set i (.ref K 0 0)))] (over [(K,.arr sz [] true)] (zD h)) K=_ from by rw[<-vQ,<-vQ,zD7,zD7,xV,hW (λe=>u e.symm),xV,Os Z]]
    .cases hj
   .exact(V j v hj).evo E)
 have A:=cK (d:=[(k,.box (cs.set i (.ref K 0 0)))]) Z z
 have R:TY F m (zL tm) (over [(k,.box (cs.set i (.ref K 0 0)))] (over [(K,.arr sz [] true)] (zD h))) a w:=
  ⟨⟨X,_,hX,B.hok,λj=>((Y j).evo G.evo).evo B.evo,(KK.goes G z (G.lives O z)).goes B A (B.lives M A),λi hi=>F.go B (F.go G (hJ i hi)),(hD.goes O G).goes M B⟩,A,gs,hl⟩
 unfold wV;dsimp only;rw[show zD ((k,.box (cs.set i (.ref K 0 0)))::(K,.arr sz [] true)::h)=over [(k,.box (cs.set i (.ref K 0 0)))] (over [(K,.arr sz [] true)] (zD h))from(vQ [(k,.box (cs.set i (.ref K 0 0)))] _).trans (zAt (over _) (vQ [(K,.arr sz [] true)] h))];exact R
def zW {c:Code} {Q:Exit->St->Prop} (t K sz:Nat) (hv:zL tm t= .s (.slice none 0 0)) (u:(zD h K).isNone=true) (z:Nat.ble 1 sz=true) (hk:uG P F m c ⟨(t,.ref K 0 0)::tm,(K,.arr sz [] true)::h⟩ Q):uG P F m c ⟨tm,h⟩ Q:=⟨λa w H=>hk.run a w (H.virt t K sz hv u z)⟩
def uY {c:Code} {Q:Exit->St->Prop} (k i K sz:Nat) {u:List AV} (hb:zD h k=some (.box cs)) (hv:cs[i]? =some (.s (.slice none 0 0))) (z:(zD h K).isNone=true) (A:Nat.ble 1 sz=true) (hc:cs.set i (.ref K 0 0)=u) (hk:uG P F m c ⟨tm,(k,.box u)::(K,.arr sz [] true)::h⟩ Q):
 uG P F m c ⟨tm,h⟩ Q:=⟨λa w H=>hk.run a w (hc▸H.virtB k i K sz hb hv z A)⟩
end
section
variable {P:Program} {TT:List TI} (hP:qI P TT) {tm:List (Nat×AV)} {h:List (Nat×xM)}
include hP in
theorem TZ {z:Operand} {u len:Nat} {k:IntKind} {i:Int} (hx:yW (zL tm) x= .ref u 0 len) (hi:yW (zL tm) z= .s (.int k i)) (hk:zD h u=some (.arr sz xs sl)) (hT:TT[T]? =some ti) (hd:ti.d= .slice e) (A:TT[e]? =some te)
 (h0:0<=i) (hl:i<len) (B:Nat.beq sz te.size=true):wZ P ⟨tm,h⟩ (.indexAddr T x z) (.ptr u i.toNat 0) [] [u] []:=by
 have:=UL (st:=⟨tm,h⟩) hP hx hi hk hT hd A h0 hl B
 grind
end
section
variable {P:Program} {K0:List Nat} {F:Fr K0} {m:Nat} {ops:Array Oper} {rest:List Oper} {Q:List FP->St->Prop} {dr:Bool} {fs:List FP}
variable {ty t:Nat} {pos:String} {after:Array Edge} {st:St}
def yI {u:Nat} (hk:yP P F m ops dr (⟨some t,.call ⟨.builtin .append, #[s,x], #[T,u]⟩,ty,pos,after,none⟩::rest) st fs Q):yP P F m ops dr (⟨some t,.call ⟨.builtin .append, #[s,x], #[T,u]⟩,ty,pos,after,none⟩::rest) st fs Q:=hk
def vF (n:Nat) {u:Array Operand} {z:Array Nat} (hk:yP P F m ops dr (⟨some t,.call ⟨.value (.func n),u,z⟩,ty,pos,after,none⟩::rest) st fs Q):yP P F m ops dr (⟨some t,.call ⟨.value (.func n),u,z⟩,ty,pos,after,none⟩::rest) st fs Q:=hk
def nr {S D:Nat} (hk:yP P F m ops dr (⟨some t,.convert S D x,ty,pos,after,none⟩::rest) st fs Q):yP P F m ops dr (⟨some t,.convert S D x,ty,pos,after,none⟩::rest) st fs Q:=hk
def Vj {op:UnOp} (hk:yP P F m ops dr (⟨some t,.unOp op T x,ty,pos,after,none⟩::rest) st fs Q):yP P F m ops dr (⟨some t,.unOp op T x,ty,pos,after,none⟩::rest) st fs Q:=hk
end
def EV {TT:List TI} {tm:List (Nat×AV)} {h:List (Nat×xM)} {z u:Nat} {k A:IntKind} {n:Int} {I B:TI} (C:qI P TT) (G:TT[z]? =some I) (hd:TT[u]? =some B) (hk:B.d= .int A) (hx:yW (zL tm) x= .s (.int k n)) (E:bZ A n):
  wZ P ⟨tm,h⟩ (.convert z u x) (.s (.int A n)) [] [] []:=by
 have:=DE (st:=⟨tm,h⟩) C G hd hk hx
 rwa [jX E]at this
def IX (k:IntKind) (n:Int):Int:=k.wrap (BitVec.ofInt k.bits (if k.signed=true then -1 else k.max) ^^^ BitVec.ofInt k.bits n).toNat
def od {k:IntKind} {n:Int} (hx:yW (zL st.tm) x= .s (.int k n)):wZ P st (.unOp .xor tx x) (.s (.int k (IX k n))) [] [] []:=
 yZ λo X tm h w β a u A _ _ z=>by
  obtain⟨d0,o0,G,E,B,C⟩:=o;dsimp only at u;subst u;have h1:=vP z A (x:=x) uL hx;exact⟨.int k (IX k n),by simp[execOp,h1,Op.unary,Op.intBits,IX],.fz _ _ (.s _)⟩
theorem wJ.frz {args:List AV} {r:AV} {I:AV} {z:List (Nat×xM)} (h:wJ P f args [] r h1) (K:List Nat) (R:ZA (wR K (zD h1) r)=I) (hh:vD K (zD h1)=z) (C:vZ z=true):wJ P f args [] I z:=
 ⟨h.able,λk=>qL C,λX w β u hc H O=>(h.sim X w β u hc H O).mono λe w' ⟨c,β',A,G,hv⟩=>by
  obtain⟨M,E⟩:=G.hok.restr K;refine⟨c,λk=>if k∈K then β' k else [],A,⟨G.size,G.keep,λk b n B=>?_,G.bs,λk e A=>by simp[zD]at A,by rw[<-hh];exact M,G.os,G.tape,G.output⟩,?_⟩
  .split at B
   .exact G.own k b n B
   .simp at B
  .rw[<-hh,<-R]
   exact(E _ _ hv).wk⟩
