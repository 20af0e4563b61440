/- Part 2. -/
import Derived.Test.YtaglbcjljlkjcaaGreatW01
import Derived.Tactics
import Derived.Deep.LoopGhost
import Derived.TacticsIn
import Derived.OrdersIn
import Derived.RangeFuncCalls
import Derived.RangeFuncRecord
import Derived.LoopIn
import Derived.RangeFuncLeaves
import Derived.Orders
namespace Go.Proofs.YtaglbcjljlkjcaaGreat.Av
set_option linter.all false
open List renaming length->ln,range->pb,getD->pi
open Inhabited renaming default->dd
variable {a:Act}{after:Array Edge}{ops:Array Oper}{args:Array Operand}{b:Bool}{Q:Exit->Act->World->Prop}{sl:Fl}{K0 nw r:List Nat}{l:List Oper}{TT:List TI}{T e f i j k m n off sz t tx ty:Nat}{L:Nat->Bool}{D D' X:Nat->Prop}{op:Op}{o:Oper}{s x y:Operand}{P:Program}{pos:String}{te ti:TI}{c:Value}{w w':World}{β β':uM}{h h':yS}
section
def Bg (β:uM) (b:Nat):Prop:=∃k n,(b,n)∈β k
abbrev GS:Nat:=1000000
def DO (u:Option Nat):Fence:={Fence.wide with round:=u}
structure Fr (K0:List Nat) where
 X:Nat->Prop
 w0:World
 β0:uM
 h0:yS
 hK:∀k b n,(b,n)∈β0 k->k∈K0
 hh:∀k e,h0 k=some e->k∈K0
 ro:Option Nat
 it:Bool
 V:Nat->Prop
 J:Nat->(Nat->Prop)->(Nat->Prop)->World->Prop
 Jst:∀i O X w w' O',J i O X w->w.heap.size<=w'.heap.size->(∀b,b<w.heap.size->¬O b->w'.heap[b]? =w.heap[b]?)->(∀b,O' b->O b\/w.heap.size<=b)->(∀b,O' b->b<w'.heap.size)->w'.os=w.os->w'.tape=w.tape->w'.output=w.output->J i O' X w'
def O9 (h:yS) (k:Nat):xW->Prop
 | .box _=>∃cs,h k=some (.box cs)
 | .obj _=>∃cs,h k=some (.obj cs)
 | .arr sz xs _=>∃u st,h k=some (.arr sz u st)/\xs.length<=ln u
 | .dead=>False
variable {K0:List Nat}
structure fB (F:Fr K0) (h:yS) (β:uM) (w:World):Prop where
 knd:∀k e,F.h0 k=some e->O9 h k e
 size:F.w0.heap.size<=w.heap.size
 keep:∀b,b<F.w0.heap.size->¬F.V b->(∀k n,(b,n)∉F.β0 k)->w.heap[b]? =F.w0.heap[b]?
 own:∀k b n,(b,n)∈β k->(∃k' n',(b,n')∈F.β0 k')\/F.w0.heap.size<=b
 pas:∀k b n,(b,n)∈F.β0 k->∃n',n<=n'/\(b,n')∈β k
 bs:∀k b n,(b,n)∈F.β0 k->wO w b=wO F.w0 b
 os:w.os=F.w0.os
 tape:w.tape=F.w0.tape
 output:w.output=F.w0.output
def vX:List (Nat×xW)->Bool
 | []=>true
 |(_,.dead)::_=>false
 |_::r=>vX r
theorem qG:∀{d:List (Nat×xW)} {k:Nat},vX d=true->zD d k≠some .dead
 | [],k,_=>by simp[zD]
 |(j,e)::r,k,h=>by
  unfold zD
  cases e with
  |dead=>simp[vX]at h
  |box cs=>cases Nat.beq k j<;>simp;exact qG (by simpa [vX]using h)
  |obj cs=>cases Nat.beq k j<;>simp;exact qG (by simpa [vX]using h)
  |arr a b c=>cases Nat.beq k j<;>simp;exact qG (by simpa [vX]using h)
def Tx (β β':uM):Prop:=∀k b n,(b,n)∈β k->∃u,n<=u/\(b,u)∈β' k
theorem xU.lives (H:jL X h β w) (G:xU X w h β w' h' β') (hd:∀k,h' k≠some .dead):Tx β β':=by
 intro k b n z
 cases u:h k with
 |none=>rw[H.off k u]at z;simp at z
 |some e=>
  rcases G.key k e u with h1|h1
  all_goals grind
theorem fB.goes {F:Fr K0} (K:fB F h β w) (G:xU X w h β w' h' β') (O:∀k,h' k≠some .dead) (hl:Tx β β'):fB F h' β' w' where
 knd k e he:=by
  have h1:=K.knd k e he
  cases e with
  |dead=>exact h1
  |box cs=>
   obtain⟨C,h2⟩:=h1;exact((G.key k _ h2).resolve_left (O k)).1
  |obj cs=>
   obtain⟨C,h2⟩:=h1;exact((G.key k _ h2).resolve_left (O k)).1
  |arr sz xs st=>
   obtain⟨U,st',h2,E⟩:=h1;obtain⟨B,A,I,S⟩:=((G.key k _ h2).resolve_left (O k)).1;exact⟨B,A,I,zBw E S⟩
 size:=zBw K.size G.size
 keep b hb hi hn:=by
  rw[G.keep b (zBy hb K.size),K.keep b hb hi hn];intro k n u
  rcases K.own k b n u with⟨R,z,h1⟩|h1
  .exact hn _ _ h1
  .omega
 own k b n u:=by
  rcases G.own k b n u with⟨R,z,h1⟩|h1
  .exact K.own R b z h1
  .exact .inr (zBw K.size h1)
 pas k b n u:=by
  obtain⟨z,h1,h2⟩:=K.pas k b n u;obtain⟨M,E,I⟩:=hl k b z h2;exact⟨M,zBw h1 E,I⟩
 bs k b n u:=by
  obtain⟨z,_,h2⟩:=K.pas k b n u;rw[G.bs k b z h2,K.bs k b n u]
 os:=G.os.trans K.os
 tape:=G.tape.trans K.tape
 output:=G.output.trans K.output
def Yz (X:Nat->Prop) (F:Fr K0) (z:List Deferred) (w:World):Prop:=
 ∃u:List Nat,z=u.map (λb=>{target:= .collected b,args:= #[]})/\(F.it=true->u=[])/\u.Nodup/\∀b,b∈u->X b/\F.w0.heap.size<=b/\w.heap[b]? =some (.deferred (some []))
theorem Yz.goes {F:Fr K0} {u:List Deferred} (H:jL X h β w) (D:Yz X F u w) (G:xU X w h β w' h' β'):Yz X F u w':=by
 obtain⟨z,h1,A,h2,B⟩:=D;refine⟨z,h1,A,h2,λb hb=>?_⟩;obtain⟨q1,E,I⟩:=B b hb;exact⟨q1,E,by rw[G.keep b (H.lt b (.inl q1)) λk n C=>H.free k b n C q1];exact I⟩
theorem Fr.go {F:Fr K0} (G:xU X w h β w' h' β') (hj:F.J i (Bg β) X w):F.J i (Bg β') X w':=
 F.Jst i _ X w w' _ hj G.size (λb hb z=>G.keep b hb λk n u=>z ⟨k,n,u⟩) (λb ⟨k,n,u⟩=>(G.own k b n u).imp (λ⟨k',n',h⟩=>⟨k',n',h⟩) id) (λb ⟨k,n,u⟩=>G.hok.lt b (.inr ⟨k,n,u⟩)) G.os G.tape G.output
def F5 (F:Fr K0) (X:Nat->Prop):Prop:=(∀b,F.X b->X b)/\∀b,X b->F.X b\/F.w0.heap.size<=b
structure WK (F:Fr K0) (m:Nat) (tm:Nat->AV) (h:yS) (a:Act) (w:World):Prop where
 ex:∃X β,F5 F X/\jL X h β w/\(∀t,yI w (xT X β) h β (tm t) (a.eval (.tmp t)))/\fB F h β w/\(∀i,tm GS= .gh i->F.J i (Bg β) X w)/\Yz X F a.defers w
 nd:∀k,h k≠some .dead
 gs:m<=GS
 len:a.tmps.size=m
def wK (F:Fr K0) (m:Nat) (st:St):Act->World->Prop:=WK F m (zK st.tm) (zD st.h)
theorem xF (t:Nat) (v:AV) (u:List (Nat×AV)) (j:Nat):zK ((t,v)::u) j=if j=t then v else zK u j:=by simp_all [zK]
theorem xK (t:Nat) (v:xW) (u:List (Nat×xW)) (j:Nat):zD ((t,v)::u) j=if j=t then some v else zD u j:=by simp_all [zD]
theorem vD:∀(d h:List (Nat×xW)),zD (d++h)=over d (zD h)
 | [],_=>rfl
 |(k,e)::r,h=>by
  funext j
  have u:=congrFun (vD r h) j;simp only[zD6,over,xK]at *; split
  .rfl
  .exact u
theorem aG.wp {z:Option Nat} {K:Act->World->Prop} {N:Value->World->Prop} (hd:aG P N ((execOp a.eval o).run P w)) (h:∀c w',N c w'->K (a.put o.dst c) w'):o.wpIn (DO z) 0 P a w K Q:=by
 have A:(o.semAt (DO z).round a.eval).run P w=(execOp a.eval o).run P w:=by
  show(o.semAt z a.eval).run P w=_
  cases z with
  |none=>rfl
  | some l=>
   by_cases u:∃c,o.op= .defer c
   .exfalso;obtain⟨c,hc⟩:=u;revert hd;unfold execOp;rw[hc];simp only[Sem.run_bind]
    cases (resolve a.eval c o.type).run P w<;>simp[Result.andThen,aG]
   .rw[Oper.semAt_some l _ _ λc hc=>u ⟨c,hc⟩]
 refine⟨λ_ _=>trivial,?_⟩;rw[A];generalize (execOp a.eval o).run P w=r at hd
 cases r with
 |halt x w'=>exact hd.elim
 | ok n w'=>
  cases n with
  |value c=>exact h _ _ hd
  |skip=>exact h _ _ hd
  |enter f args=>
   refine⟨λhx=>by simp[DO,Fence.wide]at hx,?_⟩;exact callsIn_wide.2 (Calls.mono hd λe w'' ⟨c,he,hn⟩=>by subst he;exact h _ _ hn)
  |_=>exact hd.elim
theorem WK.put {F:Fr K0} {B:Nat->AV} (I:F5 F X) (H:jL X h β w) (hv:∀t,yI w (xT X β) h β (B t) (a.eval (.tmp t))) (K:fB F h β w) (E:∀i,B GS= .gh i->F.J i (Bg β) X w) (hd:Yz X F a.defers w) (gs:m<=GS) (hl:a.tmps.size=m)
 (G:xU X w h β w' h' β') (A:∀k,h' k≠some .dead) {v:AV} (hc:yI w' (xT X β') h' β' v c) (u:Option Nat) (C:∀d,u=some d->d<m):
  WK F m (λt=>if u=some t then v else B t) h' (a.put u c) w':=by
 refine⟨⟨X,β',I,G.hok,λt=>?_,K.goes G A (G.lives H A),λi hi=>?_,by have:=hd.goes H G;cases u<;>exact this⟩,A,gs,by cases u<;>simp[Act.put,hl]⟩
 .split
  .rename_i z;subst z;have:t<a.tmps.size:=by rw[hl];exact C t Z
   have e:(a.put (some t) c).eval (.tmp t)=c:=by simp[Act.put,Act.eval,this]
   rw[e];exact hc
  .rename_i z;rw[Act.eval_put (λd hd e=>z (by rw[hd];injection e with e;rw[e]))];exact(hv t).evo G.evo
 .rw[Os (λe=>by have:=C GS e;omega)]at hi;exact F.go G (E i hi)
theorem wX.rel {st:St} {v:AV} {d:List (Nat×xW)} (Y:wX P st o.op v d r nw) {F:Fr K0} {u:Nat->AV} (H:WK F m u h a w)
 (h1:∀t,t∈fI o.op->u t=zK st.tm t) (h2:∀k,k∈r->h k=zD st.h k) (I:∀k,k∈nw->h k=none) (hd:vX d=true) (W:∀t,o.dst=some t->t<m) {K:Act->World->Prop} 
 (S:∀C w',WK F m (λt=>if o.dst=some t then v else u t) (over d h) C w'->K C w'):o.wpIn (DO F.ro) 0 P a w K Q:=by
 obtain⟨⟨X,β,U,A,B,E,R,O⟩,nd,gs,hl⟩:=H;refine aG.wp (Y.run X u h h1 h2 I o a w β rfl A B) ?_;rintro c w' ⟨β',G,hc⟩
 have z:∀k,over d h k≠some .dead:=λk=>by
  unfold over;split
  .rename_i e V;intro M;cases M;exact qG hd V
  .exact nd k
 exact S _ _ (WK.put U A B E R O gs hl G z hc o.dst W)
def QI {F:Fence} {a:Act} {w:World} {c:Code} (I:Nat->Act->World->Prop) (M:Nat) (R:I M a w)
 (z:∀k a w,I k a w->c.wpIn F n P (Exit.then (λA w'=>∃G,G<k/\I G A w') Q) a w):(Code.loop c).wpIn F n P Q a w:=by
 refine wpIn_loop (λa w=>∃k,I k a w) (λa w=>leastOf (λk=>I k a w)) ⟨M,R⟩ ?_;intro a w O;refine wpIn_mono (z _ a w (leastOf_spec O).1) ?_;intro e A w' E
 cases e with
 |normal=>
  obtain⟨C,B,u⟩:=E;exact show(∃n,I n A w')/\leastOf (λn=>I n A w')<leastOf (λn=>I n a w)from⟨⟨C,u⟩,Nat.lt_of_le_of_lt ((leastOf_spec ⟨C,u⟩).2 C u) B⟩
 |_=>exact E
structure uD (P:Program) (F:Fr K0) (m:Nat) (c:Code) (st:St) (Q:Exit->St->Prop):Prop where
 run:∀a w,wK F m st a w->c.wpIn (DO F.ro) 0 P (λe a' w'=>∃st',Q e st'/\wK F m st' a' w') a w
def HA (P:Program) (F:Fr K0) (m:Nat) (ops:Array Oper) (l:List Oper) (st:St) (Q:St->Prop):Prop:=
 ∀a w,wK F m st a w->wpListIn (DO F.ro) 0 P ops (λe u w'=>e= .normal/\∃st',Q st'/\wK F m st' u w') l a w
section
variable {P:Program} {F:Fr K0} {m:Nat} {Q:Exit->St->Prop} {st:St}
theorem uD.mono {c:Code} {u:Exit->St->Prop} (h:uD P F m c st Q) (z:∀e s,Q e s->u e s):uD P F m c st u:=
 ⟨λa w H=>Code.wpIn_mono (λ_ _ _ ⟨s,h1,h2⟩=>⟨s,z _ _ h1,h2⟩) (h.run a w H)⟩
def xJ (h:Q .normal st):uD P F m .skip st Q:=⟨λ_ _ H=>wpIn_skip ⟨st,h,H⟩⟩
def xL (h:Q .ret st):uD P F m .ret st Q:=⟨λ_ _ H=>wpIn_ret ⟨st,h,H⟩⟩
def xQ {id:Nat} (h:Q (.exit id) st):uD P F m (.exit id) st Q:=⟨λ_ _ H=>wpIn_exit ⟨st,h,H⟩⟩
def XV (P:Program) (F:Fr K0) (m:Nat) (y:Code) (Q:Exit->St->Prop):Exit->St->Prop
 | .normal,s=>uD P F m y s Q
 |e,s=>Q e s
def xY {x y:Code} (h:uD P F m x st (XV P F m y Q)):uD P F m (.seq x y) st Q:=⟨λa w H=>
 wpIn_seq (Code.wpIn_mono (λe a' w' ⟨s,h1,h2⟩=>by
  cases e with
  |normal=>exact uD.run h1 a' w' h2
  |_=>exact⟨s,h1,h2⟩) (h.run a w H))⟩
def xZ {c:Operand} {x y:Code} {t:Bool} (hc:yX (zK st.tm) c= .s (.bool t)) (h1:t=true->uD P F m x st Q) (h2:t=false->uD P F m y st Q):uD P F m (.cond c x y) st Q:=⟨λa w H=>by
 have hv:a.eval c= .bool t:=by
  obtain⟨⟨_,β,_,_,u,_⟩,_⟩:=H;have:=PF u c;rw[hc]at this;exact this.s_inv
 exact wpIn_cond_split hv (λh=>(h1 h).run a w H) (λh=>(h2 h).run a w H)⟩
def yR {c:Operand} {x y:Code} (hc:yX (zK st.tm) c= .s (.bool true)) (h:uD P F m x st Q):uD P F m (.cond c x y) st Q:=xZ hc (λ_=>h) (λh=>by cases h)
def yD {c:Operand} {x y:Code} (hc:yX (zK st.tm) c= .s (.bool false)) (h:uD P F m y st Q):uD P F m (.cond c x y) st Q:=xZ hc (λh=>by cases h) (λ_=>h)
def fk (id:Nat) (Q:Exit->St->Prop):Exit->St->Prop
 | .exit u,s=>bif Nat.beq u id then Q .normal s else Q (.exit u) s
 |e,s=>Q e s
def xC {id:Nat} {c:Code} (h:uD P F m c st (fk id Q)):uD P F m (.block id c) st Q:=⟨λa w H=>
 wpIn_block (Code.wpIn_mono (λe a' w' ⟨s,h1,h2⟩=>by
  cases e with
  |exit z=>
   simp only[Exit.inBlock];split
   .rename_i u;subst u;simp only[fk,bh,zB6]at h1;exact⟨s,h1,h2⟩
   .rename_i u;simp only[fk,JH u,zCt]at h1;exact⟨s,h1,h2⟩
  |_=>exact⟨s,h1,h2⟩) (h.run a w H))⟩
def Pb {id:Nat} (h:HA P F m l.toArray l st (Q .normal)):uD P F m (.region id l.toArray false) st Q:=⟨λa w H=>
 Code.wpIn_mono (λe a' w' ⟨he,s,h1,h2⟩=>by subst he;exact⟨s,h1,h2⟩) (wpIn_region_lit (h a w H))⟩
end
end
mutual
def AV.refs:AV->List Nat
 | .ref k _ _| .ptr k _ _=>[k]
 | .agg cs| .fn _ cs| .tup cs=>jQ cs
 |_=>[]
def jQ:List AV->List Nat
 | []=>[]
 |v::r=>v.refs++jQ r
end
mutual
def AV.nosl:AV->Bool
 | .sl _ _| .slc _ _| .fp _ _ _| .fm _ _=>false
 | .agg cs| .fn _ cs| .tup cs=>OR cs
 |_=>true
def OR:List AV->Bool
 | []=>true
 |v::r=>v.nosl&&OR r
end
mutual
def qZ (K:List Nat) (h:yS):AV->AV
 | .ref k off len=>bif K.contains k then .ref k off len else match h k with
  |some (.arr _ xs fl)=>bif fl.nest then .bot else .sl false ((xs.drop off).take len)
  |_=> .bot
 | .ptr k i off=>bif K.contains k then .ptr k i off else .bot
 | .agg cs=> .agg (vK K h cs)
 | .fn f cs=> .fn f (vK K h cs)
 | .tup cs=> .tup (vK K h cs)
 |v=>v
def vK (K:List Nat) (h:yS):List AV->List AV
 | []=>[]
 |v::r=>qZ K h v::vK K h r
end
mutual
def wT (K:List Nat) (h:yS):AV->AV
 | .ref k off len=>bif K.contains k then .ref k off len else match h k with
  |some (.arr _ xs fl)=>bif fl.nest then(bif vI (vK K h xs)then .sl false (((vK K h xs).drop off).take len)else .bot)else .sl false ((xs.drop off).take len)
  |_=> .bot
 | .ptr k i off=>bif K.contains k then .ptr k i off else .bot
 | .agg cs=> .agg (kO K h cs)
 | .fn f cs=> .fn f (kO K h cs)
 | .tup cs=> .tup (kO K h cs)
 |v=>v
def kO (K:List Nat) (h:yS):List AV->List AV
 | []=>[]
 |v::r=>wT K h v::kO K h r
end
mutual
def ZC:AV->AV
 | .s v=>match v with
  | .slice none 0 0=> .sl false []
  |v=> .s v
 | .sl _ xs=> .sl false xs
 | .agg cs=> .agg (wkL cs)
 | .fn f cs=> .fn f (wkL cs)
 | .tup cs=> .tup (wkL cs)
 |v=>v
def wkL:List AV->List AV
 | []=>[]
 |v::r=>ZC v::wkL r
end
theorem wS:∀{cs:List AV} {i:Nat} {v:AV} {k:Nat},cs[i]? =some v->k∈v.refs->k∈jQ cs
 | [],_,_,_,h,_=>by simp at h
 |x::r,0,v,k,h,hk=>by simp at h;subst h;simp[jQ,hk]
 |x::r,i+1,v,k,h,hk=>by simp[jQ,wS (show r[i]? =some v by simpa using h) hk]
variable {v xv:AV}{caps cs xs ys:List AV}{tm:Nat->AV}
theorem eK:∀{cs:List AV} {i:Nat} {v:AV},OR cs=true->cs[i]? =some v->v.nosl=true
 | [],_,_,_,h=>by simp at h
 |x::r,0,v,hk,h=>by simp at h;subst h;simp[OR]at hk;exact hk.1
 |x::r,i+1,v,hk,h=>by simp[OR]at hk;exact eK hk.2 OZ
theorem aD (K:List Nat) (h:yS):∀(cs:List AV) (i:Nat),(kO K h cs)[i]? =(cs[i]?).map (wT K h)
 | [],i=>by simp[kO]
 |x::r,0=>by simp[kO]
 |x::r,i+1=>by simp[kO,aD K h r i]
theorem bG (K:List Nat) (h:yS):∀(cs:List AV) (i:Nat),(vK K h cs)[i]? =(cs[i]?).map (qZ K h)
 | [],i=>by simp[vK]
 |x::r,0=>by simp[vK]
 |x::r,i+1=>by simp[vK,bG K h r i]
theorem kH (K:List Nat) (h:yS):∀(cs:List AV),(vK K h cs).length=ln cs
 | []=>rfl
 |x::r=>by simp[vK,kH K h r]
theorem ZG (h:v.isAgg=false):v.cells=[v]:=by cases v<;>first|rfl|(simp[AV.isAgg]at h)
def OS (K:List Nat) (h:yS) (x:AV):(qZ K h x).cells=vK K h x.cells:=by
 cases x with
 |agg cs=>rfl
 | ref k off len=>
  apply ZG;unfold qZ
  cases K.contains k with
  |true=>rfl
  | false=>
   simp only[zCt]
   rcases h k with _|(_|⟨_,_,fl⟩|_|_)
   .rfl
   .rfl
   .dsimp only
    cases fl.nest<;>rfl
   .rfl
   .rfl
 |ptr k i off=>apply ZG;unfold qZ;cases K.contains k<;>rfl
 |_=>rfl
def OT (K:List Nat) (h:yS) (x:AV):(wT K h x).cells=kO K h x.cells:=by
 cases x with
 |agg cs=>rfl
 | ref k off len=>
  apply ZG;unfold wT
  cases K.contains k with
  |true=>rfl
  | false=>
   simp only[zCt]
   rcases h k with _|(_|⟨_,xs,fl⟩|_|_)
   .rfl
   .rfl
   .dsimp only
    cases fl.nest with
    |false=>rfl
    |true=>
     simp only[zB6]
     cases vI (vK K h xs)<;>rfl
   .rfl
   .rfl
 |ptr k i off=>apply ZG;unfold wT;cases K.contains k<;>rfl
 |_=>rfl
theorem RW {x:AV} (h:x.nokey=true):vI x.cells=true:=by
 by_cases u:x.isAgg=true
 .cases x<;>first
   |exact h
   |(simp[AV.isAgg]at u)
 all_goals grind [vI,ZG]
theorem vY (K:List Nat) (h:yS):∀(cs:List AV),(kO K h cs).length=ln cs
 | []=>rfl
 |x::r=>by simp[kO,vY K h r]
theorem Ob:∀(cs:List AV) (i:Nat),(wkL cs)[i]? =(cs[i]?).map ZC
 | [],i=>by simp[wkL]
 |x::r,0=>by simp[wkL]
 |x::r,i+1=>by simp[wkL,Ob r i]
theorem dV:∀(cs:List AV),(wkL cs).length=ln cs
 | []=>rfl
 |x::r=>by simp[wkL,dV r]
theorem oe:∀cs:List AV,wkL cs=cs.map ZC
 | []=>rfl
 |x::r=>by simp[wkL,oe r]
theorem xM.wk :∀{v:AV} {c:Value},xM w D v c->xM w D (ZC v) c:=by
 intro v c hv
 induction hv with
 |bot c=>exact .bot c
 |gh n c=>exact .gh n c
 |s v=>
  unfold ZC;split
  .exact .nil _ _
  .exact .s _
 | agg cs c hl h1 _ B=>
  exact .agg _ c (by rw[dV];exact hl) h1 λi v hv=>by
   grind [ZC,Ob,Option.map_eq_some_iff]
 |nil a cap=>exact .nil _ _
 |nil1 a cap=>exact .nil _ _
 |sl C xs b o sz cap f hx hL hc hh _=>exact .sl false xs b o sz cap f hx hL hc hh
 |slc cap xs b o sz f hL hc hh _=>exact .slc cap xs b o sz f hL hc hh
 |fp xs b o sz i off f hL hi u hh _=>exact .fp xs b o sz i off f hL hi u hh
 |fm A p b x u hl hd hx z=>exact .fm A p b x u hl hd hx z
theorem yI.wk :∀{v:AV} {c:Value},yI w D h β v c->yI w D h β (ZC v) c:=by
 intro v c hv
 have z:∀{cs:List AV} {c:Array Value} (u:∀(i:Nat) v,cs[i]? =some v->yI w D h β (ZC v) (c.getD i undef)) (i:Nat) v,(wkL cs)[i]? =some v->yI w D h β v (c.getD i undef):=λu i v hv=>by
  rw[Ob,zBa]at hv
  grind
 induction hv with
 |fz v c B=>exact .fz _ _ B.wk
 |agg cs c hl h1 _ u=>exact .agg _ c (by rw[dV];exact hl) h1 (z u)
 |fn f caps c hl _ u=>exact .fn f _ c (by rw[dV];exact hl) (z u)
 |tup vs c hl _ u=>exact .tup _ c (by rw[dV];exact hl) (z u)
 |dref k off len c hk h1=>exact .dref _ _ _ _ hk h1
 |dptr k i off c hk h1=>exact .dptr _ _ _ _ hk h1
 |ref k off len sz xs st b n cap hk hb A hc E=>exact .ref k off len sz xs st b n cap hk hb A hc E
 |ref0 k off sz xs st a hk A=>exact .ref0 k off sz xs st a hk A
 |pbox k off cs b n hk hb=>exact .pbox k off cs b n hk hb
 |parr k i off sz xs st b n hk hb hi C=>exact .parr k i off sz xs st b n hk hb hi C
theorem xM.free :∀{v:AV} {c:Value},xM w D v c->v.nosl=true->xM w D' v c:=by
 intro v c hv
 induction hv with
 |bot c=>exact λ_=> .bot c
 |gh n c=>exact λ_=> .gh n c
 |s v=>exact λ_=> .s v
 |agg cs c hl h1 _ z=>exact λu=> .agg cs c hl h1 λi v hv=>z i v hv (eK (by simpa [AV.nosl]using u) hv)
 |_=>intro u;simp[AV.nosl]at u
theorem yI.fz0 (H:jL X h β w) {K:List Nat} 
 (hk:∀k,k∈K->∀e,h k=some e->match e with| .box _=>∃C,h' k=some (.box C)| .obj _=>∃C,h' k=some (.obj C)| .arr sz xs _=>∃A st',h' k=some (.arr sz A st')/\xs.length=ln A| .dead=>h' k=some .dead) (hβ:∀k,k∈K->β' k=β k) (hD:∀b,b<w.heap.size->¬xT X β b->¬D' b)
 (hv:yI w (xT X β) h β v c):(∀k,k∈v.refs->k∈K\/∀b n,(b,n)∈β k->¬D' b)->yI w D' h' β' (qZ K h v) c:=by
 have S:∀{cs:List AV} {c:Array Value} (I:∀(i:Nat) v,cs[i]? =some v->(∀k,k∈v.refs->k∈K\/∀b n,(b,n)∈β k->¬D' b)->yI w D' h' β' (qZ K h v) (c.getD i undef)) (B:∀k,k∈jQ cs->k∈K\/∀b n,(b,n)∈β k->¬D' b)
   (i:Nat) v,(vK K h cs)[i]? =some v->yI w D' h' β' v (c.getD i undef):=λI B i v hv=>by
  rw[bG,zBa]at hv;obtain⟨u,hu,rfl⟩:=hv;exact I i u hu λk hk=>B k (wS hu hk)
 have E:∀{v c},xM w (xT X β) v c->xM w D' v c:=λW=>W.evo (zAw _) λb hb hd=>⟨rfl,hD b hb hd⟩
 have z:∀{k},K.contains k=true↔k∈K:=λ{k}=>by simp
 induction hv with
 | fz v c W=>
  intro _
  have:xM w D' (qZ K h v) c:=by
   have h2:∀{v c},xM w (xT X β) v c->xM w D' (qZ K h v) c:=by
    intro v c W
    induction W with
    |bot c=>exact .bot c
    |gh n c=>exact .gh n c
    |s v=>exact .s v
    | agg cs c hl h1 _ I=>
     exact .agg _ c (by rw[kH];exact hl) h1 λi v hv=>by
      rw[bG,zBa]at hv
      grind
    |nil a cap=>exact .nil _ _
    |nil1 a cap=>exact .nil1 _ _
    |sl nn xs b o sz cap f hx hL hc hh _=>exact E (.sl nn xs b o sz cap f hx hL hc hh)
    |slc cap xs b o sz f hL hc hh _=>exact E (.slc cap xs b o sz f hL hc hh)
    |fp xs b o sz i off f hL hi Y hh _=>exact E (.fp xs b o sz i off f hL hi Y hh)
    |fm ob p b x Y hl hd hx hp=>exact E (.fm ob p b x Y hl hd hx hp)
   exact h2 W
  exact .fz _ _ this
 |agg cs c hl h1 _ I=>exact λB=> .agg _ c (by rw[kH];exact hl) h1 (S I B)
 |fn f caps c hl _ I=>exact λB=> .fn f _ c (by rw[kH];exact hl) (S I B)
 |tup vs c hl _ I=>exact λB=> .tup _ c (by rw[kH];exact hl) (S I B)
 |dref k off len c hk' h1=>
  intro B;unfold qZ
  cases hc:K.contains k with
  |true=>exact .dref _ _ _ _ (hk k (z.1 hc) _ hk') h1
  |false=>simp only[hk',zCt];exact .fz _ _ (.bot _)
 |dptr k i off c hk' h1=>
  intro B;unfold qZ
  cases hc:K.contains k with
  |true=>exact .dptr _ _ _ _ (hk k (z.1 hc) _ hk') h1
  |false=>exact .fz _ _ (.bot _)
 | ref k off len sz xs st b n cap hk' hb hn V hs=>
  intro B;unfold qZ
  cases hc:K.contains k with
  |true=>obtain⟨A,st',G,_⟩:=hk k (z.1 hc) _ hk';exact .ref k off len sz A st' b n cap G (by rw[hβ k (z.1 hc)];exact hb) hn V hs
  | false=>
   simp only[hk',zCt]
   cases R:st.nest with
   |true=>exact .fz _ _ (.bot _)
   |false=>
   simp only[zCt];have ag:¬k∈K:=λh=>by rw[z.2 h]at hc;cases hc
   have O:=(B k (by simp[AV.refs])).resolve_left ag;obtain⟨g1,g2,g3,g4,g5,f,g6,g7,g8⟩:=H.ent k _ hk'
   have ap:n<=ln xs:=by
    cases hbk:β k with
    |nil=>rw[hbk]at hb;simp at hb
    |cons q rr=>
     obtain⟨b0,n0⟩:=q;obtain⟨e1,_,e3⟩:=g5 b0 n0 rr hbk;rw[hbk]at hb;simp at hb
     rcases hb with⟨_,rfl⟩|hb
     .omega
     .exact zE3 (e3 b n hb)
   have hl:((xs.drop off).take len).length=len:=by simp;omega
   by_cases hz:len=0
   .subst hz;simp only[zD7];exact .fz _ _ (.nil _ _)
   .have U:∀(i:Nat) y,((xs.drop off).take len)[i]? =some y->xs[off+i]? =some y:=λi y M=>by
     rw[zCg]at M;split at M
     .rwa [zCz]at M
     .cases M
    obtain⟨cc,el,e1,e2,e3,_⟩:=g8 b n hb
    have:=xM.sl (w:=w) (D:=D') false ((xs.drop off).take len) b (off*sz) sz cap (λi j=>f (off+i) j) (λh0=>hz (by rw[<-hl,h0];rfl))
     ⟨H.lt b (.inr ⟨k,n,hb⟩),O b n hb,g1,by rw[hl];omega,λi y M=>g4 _ y (U i y M),λi j hi hj=>by
      rw[hl]at hi;rw[uP e1,show off*sz+i*sz+j=(off+i)*sz+j by rw[zB2]]
      exact e3 _ _ (by omega) hj,λi j hi hj=>g7 _ _ Ve hj⟩ (by rw[hl];exact V) (λi y j v M hv=>E (g6.toF R _ y j v (U i y M) hv))
    rw[hl]at this;exact .fz _ _ this
 | ref0 k off sz xs st a hk' hn=>
  intro B;unfold qZ
  cases hc:K.contains k with
  |true=>obtain⟨A,st',G,ac⟩:=hk k (z.1 hc) _ hk';exact .ref0 k off sz A st' a G (ac▸hn)
  |false=>
   simp only[hk',zCt,zD7]
   cases st.nest with
   |true=>exact .fz _ _ (.bot _)
   |false=>exact .fz _ _ (.nil _ _)
 | pbox k off cs b n hk' hb=>
  intro B;unfold qZ
  cases hc:K.contains k with
  |true=>
   obtain⟨C,h2⟩:=hk k (z.1 hc) _ hk';exact .pbox k off C b n h2 (by rw[hβ k (z.1 hc)];exact hb)
  |false=>exact .fz _ _ (.bot _)
 |parr k i off sz xs st b n hk' hb hi Y=>
  intro B;unfold qZ
  cases hc:K.contains k with
  |true=>obtain⟨A,st',G,_⟩:=hk k (z.1 hc) _ hk';exact .parr k i off sz A st' b n G (by rw[hβ k (z.1 hc)];exact hb) hi Y
  |false=>exact .fz _ _ (.bot _)
theorem yI.frz (H:jL X h β w) {K:List Nat} 
 (hk:∀k,k∈K->∀e,h k=some e->match e with| .box _=>∃E,h' k=some (.box E)| .obj _=>∃E,h' k=some (.obj E)| .arr sz xs _=>∃C st',h' k=some (.arr sz C st')/\xs.length=ln C| .dead=>h' k=some .dead) (hβ:∀k,k∈K->β' k=β k) (hD:∀b,b<w.heap.size->¬xT X β b->¬D' b) (W:∀k,¬k∈K->∀b n,(b,n)∈β k->¬D' b)
 (hv:yI w (xT X β) h β v c):yI w D' h' β' (wT K h v) c:=by
 have U:∀{cs:List AV} {c:Array Value} (O:∀(i:Nat) v,cs[i]? =some v->yI w D' h' β' (wT K h v) (c.getD i undef))
   (i:Nat) v,(kO K h cs)[i]? =some v->yI w D' h' β' v (c.getD i undef):=λO i v hv=>by
  rw[aD,zBa]at hv;obtain⟨u,hu,rfl⟩:=hv;exact O i u hu
 have G:∀{v c},xM w (xT X β) v c->xM w D' v c:=λV=>V.evo (zAw _) λb hb hd=>⟨rfl,hD b hb hd⟩
 have z:∀{k},K.contains k=true↔k∈K:=λ{k}=>by simp
 induction hv with
 | fz v c V=>
  have:xM w D' (wT K h v) c:=by
   have h2:∀{v c},xM w (xT X β) v c->xM w D' (wT K h v) c:=by
    intro v c V
    induction V with
    |bot c=>exact .bot c
    |gh n c=>exact .gh n c
    |s v=>exact .s v
    | agg cs c hl h1 _ O=>
     exact .agg _ c (by rw[vY];exact hl) h1 λi v hv=>by
      rw[aD,zBa]at hv
      grind
    |nil a cap=>exact .nil _ _
    |nil1 a cap=>exact .nil1 _ _
    |sl nn xs b o sz cap f hx hL hc hh _=>exact G (.sl nn xs b o sz cap f hx hL hc hh)
    |slc cap xs b o sz f hL hc hh _=>exact G (.slc cap xs b o sz f hL hc hh)
    |fp xs b o sz i off f hL hi Y hh _=>exact G (.fp xs b o sz i off f hL hi Y hh)
    |fm ob p b x Y hl hd hx hp=>exact G (.fm ob p b x Y hl hd hx hp)
   exact h2 V
  exact .fz _ _ this
 |agg cs c hl h1 _ O=>exact .agg _ c (by rw[vY];exact hl) h1 (U O)
 |fn f caps c hl _ O=>exact .fn f _ c (by rw[vY];exact hl) (U O)
 |tup vs c hl _ O=>exact .tup _ c (by rw[vY];exact hl) (U O)
 |dref k off len c hk' h1=>
  unfold wT
  cases hc:K.contains k with
  |true=>exact .dref _ _ _ _ (hk k (z.1 hc) _ hk') h1
  |false=>simp only[hk',zCt];exact .fz _ _ (.bot _)
 |dptr k i off c hk' h1=>
  unfold wT
  cases hc:K.contains k with
  |true=>exact .dptr _ _ _ _ (hk k (z.1 hc) _ hk') h1
  |false=>exact .fz _ _ (.bot _)
 | ref k off len sz xs st b n cap hk' hb hn R hs=>
  unfold wT
  cases hc:K.contains k with
  |true=>obtain⟨C,st',B,_⟩:=hk k (z.1 hc) _ hk';exact .ref k off len sz C st' b n cap B (by rw[hβ k (z.1 hc)];exact hb) hn R hs
  | false=>
   simp only[hk',zCt];have ap:¬k∈K:=λh=>by rw[z.2 h]at hc;cases hc
   have M:=W k ap;obtain⟨g1,g2,g3,g4,g5,f,g6,g7,g8⟩:=H.ent k _ hk'
   have ax:n<=ln xs:=by
    cases hbk:β k with
    |nil=>rw[hbk]at hb;simp at hb
    |cons q rr=>
     obtain⟨b0,n0⟩:=q;obtain⟨e1,_,e3⟩:=g5 b0 n0 rr hbk;rw[hbk]at hb;simp at hb
     rcases hb with⟨_,rfl⟩|hb
     .omega
     .exact zE3 (e3 b n hb)
   cases S:st.nest with
   | true=>
    simp only[zB6]
    cases ar:vI (vK K h xs)with
    |false=>exact .fz _ _ (.bot _)
    |true=>
    simp only[zB6];have ac:(vK K h xs).length=ln xs:=kH K h xs;have hl:(((vK K h xs).drop off).take len).length=len:=by simp[ac];omega
    by_cases hz:len=0
    .subst hz;simp only[zD7];exact .fz _ _ (.nil _ _)
    have I:∀(i:Nat) y,(((vK K h xs).drop off).take len)[i]? =some y->∃x,xs[off+i]? =some x/\y=qZ K h x:=λi y A=>by
     rw[zCg]at A;split at A
     .rw[zCz,bG,zBa]at A;obtain⟨x,hx,rfl⟩:=A;exact⟨x,hx,rfl⟩
     .cases A
    obtain⟨cc,el,e1,e2,e3,_⟩:=g8 b n hb
    have:=xM.sl (w:=w) (D:=D') false (((vK K h xs).drop off).take len) b (off*sz) sz cap (λi j=>f (off+i) j) (λh0=>hz (by rw[<-hl,h0];rfl))
     ⟨H.lt b (.inr ⟨k,n,hb⟩),M b n hb,g1,by rw[hl];omega,λi y A=>by
      obtain⟨x,hx,rfl⟩:=I i y A;rw[OS,kH]
      exact g4 _ x hx,λi j hi hj=>by
      rw[hl]at hi;rw[uP e1,show off*sz+i*sz+j=(off+i)*sz+j by rw[zB2]]
      exact e3 _ _ (by omega) hj,λi j hi hj=>g7 _ _ Ve hj⟩ (by rw[hl];exact R) (λi y j v A hv=>by
      obtain⟨x,hx,rfl⟩:=I i y A;have av:(qZ K h x).nokey=true:=jM ar (show(vK K h xs)[off+i]? =some (qZ K h x) by rw[bG,hx];rfl);have au:v.nokey=true:=jM (RW av) hv;rw[OS,bG,zBa]at hv;obtain⟨u,hu,rfl⟩:=hv
      exact(yI.fz0 H hk hβ hD (g6.toV _ x j u hx hu) λk' _=>by
       by_cases B:k'∈K
       .exact .inl B
       .exact .inr (W k' B)).toF au)
    rw[hl]at this;exact .fz _ _ this
   |false=>
   simp only[zCt];have hl:((xs.drop off).take len).length=len:=by simp;omega
   by_cases hz:len=0
   .subst hz;simp only[zD7];exact .fz _ _ (.nil _ _)
   .have I:∀(i:Nat) y,((xs.drop off).take len)[i]? =some y->xs[off+i]? =some y:=λi y A=>by
     rw[zCg]at A;split at A
     .rwa [zCz]at A
     .cases A
    obtain⟨cc,el,e1,e2,e3,_⟩:=g8 b n hb
    have:=xM.sl (w:=w) (D:=D') false ((xs.drop off).take len) b (off*sz) sz cap (λi j=>f (off+i) j) (λh0=>hz (by rw[<-hl,h0];rfl))
     ⟨H.lt b (.inr ⟨k,n,hb⟩),M b n hb,g1,by rw[hl];omega,λi y A=>g4 _ y (I i y A),λi j hi hj=>by
      rw[hl]at hi;rw[uP e1,show off*sz+i*sz+j=(off+i)*sz+j by rw[zB2]]
      exact e3 _ _ (by omega) hj,λi j hi hj=>g7 _ _ Ve hj⟩ (by rw[hl];exact R) (λi y j v A hv=>G (g6.toF S _ y j v (I i y A) hv))
    rw[hl]at this;exact .fz _ _ this
 | ref0 k off sz xs st a hk' hn=>
  unfold wT
  cases hc:K.contains k with
  |true=>obtain⟨C,st',B,ag⟩:=hk k (z.1 hc) _ hk';exact .ref0 k off sz C st' a B (ag▸hn)
  | false=>
   simp only[hk',zCt,zD7]
   cases st.nest with
   |true=>
    simp only[zB6]
    cases vI (vK K h xs)with
    |true=>exact .fz _ _ (.nil _ _)
    |false=>exact .fz _ _ (.bot _)
   |false=>exact .fz _ _ (.nil _ _)
 | pbox k off cs b n hk' hb=>
  unfold wT
  cases hc:K.contains k with
  |true=>
   obtain⟨E,h2⟩:=hk k (z.1 hc) _ hk';exact .pbox k off E b n h2 (by rw[hβ k (z.1 hc)];exact hb)
  |false=>exact .fz _ _ (.bot _)
 |parr k i off sz xs st b n hk' hb hi Y=>
  unfold wT
  cases hc:K.contains k with
  |true=>obtain⟨C,st',B,_⟩:=hk k (z.1 hc) _ hk';exact .parr k i off sz C st' b n B (by rw[hβ k (z.1 hc)];exact hb) hi Y
  |false=>exact .fz _ _ (.bot _)
def kC (K:List Nat) (h:yS):xW->xW
 | .box cs=> .box (kO K h cs)
 | .obj cs=> .obj cs
 | .arr sz xs u=>bif u.nest then .arr sz (kO K h xs) ⟨u.stale,!vI (kO K h xs)⟩else .arr sz xs u
 | .dead=> .dead
def gO (K:List Nat) (h:yS) (sz:Nat) (xs:List AV) (A:Fl):∃u z,kC K h (.arr sz xs A)= .arr sz u z/\u.length=ln xs:=by
 cases B:A.nest with
 |true=>exact⟨_,_,by simp only[kC,B,zB6];rfl,vY K h xs⟩
 |false=>exact⟨_,_,by simp only[kC,B,zCt];rfl,rfl⟩
theorem HB {K:List Nat} (hv:wT K h v= .gh i):v= .gh i:=by
 cases v<;>first
  |exact hv
  |(simp[wT]at hv;done)
  |skip
 all_goals
  exfalso;rename_i k _ _;unfold wT at hv
  grind
def wU (K:List Nat) (h:yS):List (Nat×xW)
 :=K.filterMap λk=>(h k).map λe=>(k,kC K h e)
def restr (K u:List Nat) (st:St):St:=⟨u.map λt=>(t,wT K (zD st.h) (zK st.tm t)),wU K (zD st.h)⟩
theorem wG (K:List Nat) (h:yS) (k:Nat):zD (wU K h) k=if k∈K then(h k).map (kC K h)else none:=by
 unfold wU;generalize kC K h=g
 induction K with
 |nil=>rfl
 | cons j K u=>
  rw[List.filterMap_cons]
  cases hj:h j with
  |none=>
   grind
  |some e=>
   simp only[zCn,xK,u,zCf]
   grind
theorem gE (K u:List Nat) (st:St) (t:Nat):zK (restr K u st).tm t=if t∈u then wT K (zD st.h) (zK st.tm t)else .bot:=by
 unfold restr;dsimp only;generalize wT K (zD st.h)=g
 induction u with
 |nil=>rfl
 |cons j u z=>
  grind [zK,restr,wT,zD,xF]
theorem jL.restr (H:jL X h β w) (K:List Nat):
  jL X (zD (wU K h)) (λk=>if k∈K then β k else []) w/\∀v c,yI w (xT X β) h β v c->yI w (xT X λk=>if k∈K then β k else []) (zD (wU K h)) (λk=>if k∈K then β k else []) (wT K h v) c:=by
 have A:∀b,xT X (λk=>if k∈K then β k else []) b->xT X β b:=λb hd=>by
  rcases hd with hx|⟨k,n,z⟩
  .exact .inl hx
  ·(try dsimp only at z)
   split at z
   .exact .inr ⟨k,n,z⟩
   .simp at z
 have hv:∀v c,yI w (xT X β) h β v c->yI w (xT X λk=>if k∈K then β k else []) (zD (wU K h)) (λk=>if k∈K then β k else []) (wT K h v) c:=λv c hv=>by
  refine yI.frz H (K:=K) (λk hk e B=>?_) (λk hk=>by simp[hk]) (λb _ hd h'=>hd (A b h')) (λk hk b n z=>?_) hv
  .rw[wG,f5 hk,B]
   cases e with
   |box cs=>exact⟨_,rfl⟩
   |obj cs=>exact⟨_,rfl⟩
   |arr sz xs fl=>
    cases I:fl.nest with
    |true=>exact⟨_,_,by simp only[zCn,kC,I,zB6];rfl,(vY K h xs).symm⟩
    |false=>exact⟨_,_,by simp only[zCn,kC,I,zCt];rfl,rfl⟩
   |dead=>rfl
  .rintro(hx|⟨k',n',C⟩)
   .exact H.free k b n z hx
   ·(try dsimp only at C)
    split at C
    .rename_i hk';exact hk (H.disj k k' b n n' z C▸hk')
    .simp at C
 have ef:∀{v c},xM w (xT X β) v c->xM w (xT X λk=>if k∈K then β k else []) v c:=λhf=>hf.evo (zAw _) λb _ hd=>⟨rfl,λh'=>hd (A b h')⟩
 refine⟨⟨λk e B=>?_,λk B=>?_,λk k' b n n' h1 h2=>?_,λk b n z=>?_,λb hd=>H.lt b (A b hd)⟩,hv⟩
 .rw [wG]at B;split at B
  .rename_i hk;rw[zBa]at B;obtain⟨U,R,rfl⟩:=B;have:=H.ent k U R
   cases U with
   |dead=>show(if k∈K then β k else [])=[];rw[f5 hk];exact this
   |box cs=>
    obtain⟨b,c,el,h1,h2,h3,h4,h5⟩:=this;refine⟨b,c,el,by(try dsimp only);rw[f5 hk];exact h1,h2,by rw[vY];exact h3,h4,λi v hi=>?_⟩;rw[aD,zBa]at hi;obtain⟨u,S,rfl⟩:=hi;exact hv u _ (h5 i u S)
   |obj cs=>
    exact⟨by(try dsimp only);rw[f5 hk];exact this.1,this.2⟩
   | arr sz xs st=>
    obtain⟨V,W,Y,g4,g5,f,g6,g7,g8⟩:=this
    cases I:st.nest with
    |false=>
     simp only[kC,I,zCt];exact⟨V,W,by(try dsimp only);rw[f5 hk];exact Y,g4,by(try dsimp only);rw[f5 hk];exact g5,f,.ofF λi x j v hx E=>ef (g6.toF I i x j v hx E),g7,by(try dsimp only);rw[f5 hk];exact g8⟩
    | true=>
     simp only[kC,I,zB6];have hl:=vY K h xs
     have M:∀(i:Nat) y,(kO K h xs)[i]? =some y->∃x,xs[i]? =some x/\y=wT K h x:=λi y E=>by
      rw[aD,zBa]at E;obtain⟨x,hx,rfl⟩:=E;exact⟨x,hx,rfl⟩
     refine⟨V,by rw[hl];exact W,λO=>by(try dsimp only);rw[f5 hk];exact Y (λh1=>O (by rw[h1];rfl)),λi y E=>?_,by(try dsimp only);rw[f5 hk,hl];exact g5,f,λi y j v E G=>?_,by rw[hl];exact g7,by(try dsimp only);rw[f5 hk];exact g8⟩
     .obtain⟨x,hx,rfl⟩:=M i y E;rw[OT,vY];exact g4 i x hx
     .obtain⟨x,hx,rfl⟩:=M i y E
      have hR:yI w (xT X λk=>if k∈K then β k else []) (zD (wU K h)) (λk=>if k∈K then β k else []) v (f i j):=by
       rw[OT,aD,zBa]at G;obtain⟨u,S,rfl⟩:=G;exact hv u _ (g6.toV i x j u hx S)
      exact⟨hR,λO=>hR.toF (jM (RW (jM (by simpa using O) E)) G)⟩
  .cases B
 ·(try dsimp only)
  split
  .rename_i hk;rw[wG,f5 hk]at B
   cases hk':h k with
   |none=>exact H.off k hk'
   |some e=>simp[hk']at B
  .rfl
 ·(try dsimp only at h1 h2)
  split at h1<;>split at h2
  .exact H.disj _ _ _ _ _ h1 h2
  .simp at h2
  all_goals simp at h1
 ·(try dsimp only at z)
  split at z
  .exact H.free k b n z
  .simp at z
theorem wK.restrM {F:Fr K0} {st:St} (R:wK F m st a w) (K W:List Nat) (hK:K0.all (K.contains ·)=true) {A:Nat->AV} (hg:A GS=zK (restr K W st).tm GS)
 (ht:∀t,A t=zK (restr K W st).tm t\/∃k b p,zD st.h k=some (.obj (b,p))/\¬k∈K/\zK st.tm t= .s (.map (some b))/\A t= .fm none p):WK F m A (zD (restr K W st).h) a w:=by
 obtain⟨⟨X,β,hX,H,Ht,z,hJ,hD⟩,nd,gs,hl⟩:=R;obtain⟨H',hv⟩:=H.restr K;refine⟨⟨X,_,hX,H',λt=>?_,⟨λk e I=>?_,z.size,z.keep,λk b n u=>?_,λk b n u=>?_,z.bs,z.os,z.tape,z.output⟩,λi hi=>?_,hD⟩,λk=>?_,gs,hl⟩
 .rcases ht t with e|⟨k,b,p,h1,h2,S,C⟩
  .rw[e,gE];split
   .exact hv _ _ (Ht t)
   .exact .fz _ _ (.bot _)
  .obtain⟨g1,x,g2,g3⟩:=H.ent k _ h1;have hc:=Ht t;rw[S]at hc;rw[C]
   have e:a.eval (.tmp t)= .map (some b):=by
    generalize a.eval (.tmp t)=c at hc
    cases hc with
    |fz _ _ hf=>cases hf;rfl
   rw[e];have u:(b,0)∈β k:=by rw[g1];exact zBl.2 Z
   refine .fz _ _ (.fm none p b x (λn h=>by cases h) (H.lt b (.inr ⟨k,0,u⟩)) (λhd=>?_) g2 g3)
   rcases hd with hx|⟨j,n,hj⟩
   .exact H.free k b 0 u hx
   ·(try dsimp only at hj)
    split at hj
    .rename_i E;rw[<-H.disj k j b 0 n u hj]at E;exact h2 E
    .simp at hj
 .have hk:k∈K:=by
   have:=zA5.1 hK k (F.hh k e I);simpa using this
  have h1:=z.knd k e I;have U:∀O,zD st.h k=some O->zD (wU K (zD st.h)) k=some (kC K (zD st.h) O):=λO h2=>by rw[wG,f5 hk,h2];rfl
  cases e with
  |dead=>exact h1
  |box cs=>obtain⟨M,h2⟩:=h1;exact⟨_,U _ h2⟩
  |obj cs=>obtain⟨M,h2⟩:=h1;exact⟨_,U _ h2⟩
  |arr sz xs sl=>obtain⟨Y,V,h2,S⟩:=h1;obtain⟨G,B,C,h5⟩:=gO K (zD st.h) sz Y V;exact⟨G,B,(U _ h2).trans (by rw[C]),by rw[h5];exact S⟩
 ·(try dsimp only at u)
  split at u
  .exact z.own k b n u
  .simp at u
 .have hk:k∈K:=by
   have:=zA5.1 hK k (F.hK k b n u);simpa using this
  (try dsimp only)
  rw[f5 hk];exact z.pas k b n u
 .rw[hg,gE]at hi;split at hi
  .have h1:zK st.tm GS= .gh i:=HB hi;refine F.Jst i _ X w w _ (hJ i h1) (zAw _) (λ_ _ _=>rfl) (λb hb=>?_) (λb hb=>?_) Z Z Z
   .obtain⟨k,n,u⟩:=hb
    (try dsimp only at u)
    split at u
    .exact .inl ⟨k,n,u⟩
    .simp at u
   .obtain⟨k,n,u⟩:=hb;exact H'.lt b (.inr ⟨k,n,u⟩)
  .cases hi
 .show zD (wU K (zD st.h)) k≠some .dead
  rw[wG];split
  .intro h;rw[zBa]at h;obtain⟨e,I,h2⟩:=h
   cases e with
   |dead=>exact nd k I
   |box cs=>cases h2
   |obj cs=>cases h2
   |arr a b c=>obtain⟨G,B,C,_⟩:=gO K (zD st.h) a b c;rw[C]at h2;cases h2
  .intro h;cases h
theorem wK.restr {F:Fr K0} {st:St} (R:wK F m st a w) (K u:List Nat) (z:K0.all (K.contains ·)=true):wK F m (restr K u st) a w:=
 R.restrM K u z Z λ_=> .inl Z
def bH (P:Program) (f:Nat):Prop:=∀(args:Array Value) (w:World),(callFunc f args).run P w= .ok (.enter f args) w
def KT (_:List AV) (_:List (Nat×xW)) (_:AV) (_:List (Nat×xW)):Prop:=True
def ak {a:List AV} {u h1:List (Nat×xW)} {r:AV}:KT a u r h1:=trivial
structure xO (P:Program) (f:Nat) (args:List AV) (h0:List (Nat×xW)) (r:AV) (h1:List (Nat×xW)):Prop where
 able:bH P f
 nd:∀k,zD h1 k≠some .dead
 sim:∀(X:Nat->Prop) (w:World) (β:uM) (cargs:Array Value),cargs.size=args.length->jL X (zD h0) β w->(∀(i:Nat) v,args[i]? =some v->yI w (xT X β) (zD h0) β v (cargs.getD i undef))->
  Calls P f cargs w λe w'=>∃c β',e= .returned c/\xU X w (zD h0) β w' (zD h1) β'/\yI w' (xT X β') (zD h1) β' r c
def xW.nosl:xW->Bool
 | .box cs=>OR cs
 | .obj cs=>true
 | .arr _ xs _=>OR xs
 | .dead=>true
variable {d h0 h1:List (Nat×xW)}
def KU:List (Nat×xW)->Bool
 | []=>true
 |(_,e)::r=>e.nosl&&KU r
theorem DP:∀{h:List (Nat×xW)} {k:Nat} {e:xW},KU h=true->zD h k=some e->e.nosl=true
 | [],k,e,_,u=>by simp[zD]at u
 |(j,e0)::r,k,e,hn,u=>by
  simp[KU]at hn;rw[xK]at u;split at u
  .cases u;exact hn.1
  .exact DP hn.2 u
def xB (h:List (Nat×xW)):List Nat:=h.map (·.1)
theorem uF:∀{h:List (Nat×xW)} {k:Nat} {e:xW},zD h k=some e->k∈xB h
 | [],k,e,u=>by simp[zD]at u
 |(j,e0)::r,k,e,u=>by
  rw[xK]at u;split at u
  .rename_i h;simp[xB,h]
  .have:=uF u;simp[xB]at this⊢;exact .inr this
theorem bI:∀{h:List (Nat×xW)} {k:Nat},k∈xB h->∃e,zD h k=some e
 | [],k,hk=>by simp[xB]at hk
 |(j,e0)::r,k,hk=>by
  rw[xK];split
  .exact⟨_,rfl⟩
  .rename_i h;simp only[xB,zCb,zCf]at hk;exact bI (hk.resolve_left h)
theorem dW:∀{h:List (Nat×xW)} {k:Nat} {e:xW},zD h k=some e->∃p∈h,p.2=e
 | [],k,e,u=>by simp[zD]at u
 |(j,e0)::r,k,e,u=>by
  rw[xK]at u;split at u
  .cases u;exact⟨(j,e0),by simp,rfl⟩
  .obtain⟨p,z,h2⟩:=dW u;exact⟨p,by simp[z],h2⟩
def Sx (u:List Nat):xW->Bool
 | .box cs=>(jQ cs).all (u.contains ·)
 | .obj cs=>true
 | .arr _ xs z=>bif z.nest then(jQ xs).all (u.contains ·)else true
 | .dead=>true
def WM {x:AV} (h:x.cells[j]? =some v) (hk:k∈v.refs):k∈x.refs:=by
 cases x<;>first
  |(simp[AV.cells]at h;cases j<;>simp at h;subst h;exact hk)
  |exact wS h hk
def N9 (K:List Nat) (h:yS) (v:AV):AV:=ZC (qZ K h v)
theorem yt {ρ:Operand->Value} {u:Array Value} (g:Operand->AV) (hc:u.size=ln caps) (h:(args.toList.map g++caps)[i]? =some v):
  (∃x,x∈args/\g x=v/\(args.map ρ++u).getD i undef=ρ x)\/∃j,caps[j]? =some v/\(args.map ρ++u).getD i undef=u.getD j undef:=by
 by_cases hi:i<args.size
 .rw[zBp DY,zAz,zBa]at h;obtain⟨x,hx,rfl⟩:=h;have z:args[i]? =some x:=by simpa using hx
  refine .inl ⟨x,Array.mem_of_getElem? z,rfl,fX ?_⟩
  grind
 .rw[zBq qA]at h;refine .inr ⟨i-args.size,by simpa using h,?_⟩;have A:i-args.size<ln caps:=by simpa using (zBj.1 h).1
  apply fX
  grind [Array.getElem?_append_right,jN]
section
variable {P:Program} {st:St}
def nk {Xc:Nat->Prop} {z:uM} (hh:∀k e,h k=some e->h' k=some e/\β' k=z k) (E:∀b,xT X β' b->b<w'.heap.size->xT Xc z b\/False) (hv:yI w' (xT Xc z) h z v c):yI w' (xT X β') h' β' v c:=by
 have C:∀{v c},xM w' (xT Xc z) v c->xM w' (xT X β') v c:=λA=>A.evo (zAw _) λb hb hd=>⟨rfl,λh'=>hd ((E b h' hb).resolve_right id)⟩
 induction hv with
 |fz v c A=>exact .fz _ _ (C A)
 |agg cs c hl h1 _ u=>exact .agg cs c hl h1 u
 |fn f caps c hl _ u=>exact .fn f caps c hl u
 |tup vs c hl _ u=>exact .tup vs c hl u
 |dref k off len c hk h1=>exact .dref _ _ _ _ (hh k _ hk).1 h1
 |dptr k i off c hk h1=>exact .dptr _ _ _ _ (hh k _ hk).1 h1
 |ref k off len sz xs st b n cap hk hb B hc I=>exact .ref k off len sz xs st b n cap (hh k _ hk).1 (by rw[(hh k _ hk).2];exact hb) B hc I
 |ref0 k off sz xs st a hk B=>exact .ref0 k off sz xs st a (hh k _ hk).1 B
 |pbox k off cs b n hk hb=>exact .pbox k off cs b n (hh k _ hk).1 (by rw[(hh k _ hk).2];exact hb)
 |parr k i off sz xs st b n hk hb hi G=>exact .parr k i off sz xs st b n (hh k _ hk).1 (by rw[(hh k _ hk).2];exact hb) hi G
def zh {Xc:Nat->Prop} {A:uM} (hh:∀k e,h k=some e->h' k=some e/\β' k=A k) (hv:yI w' (xT Xc A) h A v c):v.nosl=true->yI w' (xT X β') h' β' v c:=by
 induction hv with
 |fz v c B=>exact λu=> .fz _ _ (B.free u)
 |agg cs c hl h1 _ z=>exact λu=> .agg cs c hl h1 λi v hv=>z i v hv (eK (by simpa [AV.nosl]using u) hv)
 |fn f caps c hl _ z=>exact λu=> .fn f caps c hl λi v hv=>z i v hv (eK (by simpa [AV.nosl]using u) hv)
 |tup vs c hl _ z=>exact λu=> .tup vs c hl λi v hv=>z i v hv (eK (by simpa [AV.nosl]using u) hv)
 |dref k off len c hk h1=>exact λ_=> .dref _ _ _ _ (hh k _ hk).1 h1
 |dptr k i off c hk h1=>exact λ_=> .dptr _ _ _ _ (hh k _ hk).1 h1
 |ref k off len sz xs st b n cap hk hb u hc E=>exact λ_=> .ref k off len sz xs st b n cap (hh k _ hk).1 (by rw[(hh k _ hk).2];exact hb) u hc E
 |ref0 k off sz xs st a hk u=>exact λ_=> .ref0 k off sz xs st a (hh k _ hk).1 u
 |pbox k off cs b n hk hb=>exact λ_=> .pbox k off cs b n (hh k _ hk).1 (by rw[(hh k _ hk).2];exact hb)
 |parr k i off sz xs st b n hk hb hi C=>exact λ_=> .parr k i off sz xs st b n (hh k _ hk).1 (by rw[(hh k _ hk).2];exact hb) hi C
theorem WA.lift {e:xW} (hb:β' k=β k) (hv:∀cs,e= .box cs->∀(i:Nat) v c,cs[i]? =some v->yI w D h β v c->yI w D' h' β' v c)
 (I:∀sz xs st,e= .arr sz xs st->∀(i:Nat) (x:AV) (j:Nat) v c,xs[i]? =some x->x.cells[j]? =some v->(xM w D v c->xM w D' v c)/\(st.nest=true->yI w D h β v c->yI w D' h' β' v c)) (H:WA w D h β k e):WA w D' h' β' k e:=by
 cases e with
 |dead=>exact hb.trans H
 |box cs=>
  obtain⟨b,c,E,h1,h2,B,u,C⟩:=H;exact⟨b,c,E,hb.trans h1,h2,B,u,λi v hi=>hv cs Z i v _ hi (C i v hi)⟩
 |obj cs=>
  exact⟨hb.trans H.1,H.2⟩
 | arr sz xs st=>
  obtain⟨h1,h2,B,u,C,f,z,G,O⟩:=H
  exact⟨h1,h2,by rwa [hb],u,by rwa [hb],f,λi x j v hx hv=>by
   obtain⟨q1,M⟩:=I sz xs st Z i x j v (f i j) hx hv
   cases A:st.nest with
   |true=>exact⟨M A (z.toV i x j v hx hv),λh=>by cases h⟩
   |false=>exact⟨.fz _ _ (q1 (z.toF A i x j v hx hv)),λ_=>q1 (z.toF A i x j v hx hv)⟩,G,by rwa [hb]⟩
theorem jK {b3:Array Nat} {b2:List AV} {r:AV} (hc:xO P f b2 h0 r h1) (hx:yX (zK st.tm) x= .fn f caps)
 (b6:(args.toList.map (yX (zK st.tm))++caps).map (qZ (xB h0) (zD st.h))=b2) (cp:(xB h0).map (zD st.h)=(xB h0).map (zD h0)) (cl:h0.all (λp=>Sx (xB h0) p.2)=true)
 (ca:((jQ (args.toList.map (yX (zK st.tm))++caps)).all ((xB h0).contains ·)||(r.nosl&&KU h1))=true):
  wX P st (.call ⟨.value x,args,b3⟩) r h1 (xB h0++jQ (args.toList.map (yX (zK st.tm))++caps)) ((xB h1).filter λk=>!(xB h0).contains k):=by
 refine⟨?_⟩;intro X tm h hg I hn o a w β ho O Ht;obtain⟨d0,o0,y0,p0,f0,g0⟩:=o;dsimp only at ho;subst ho;have b9:=fC Ht hg (x:=x) kQ hx
 obtain⟨cv,co,a7,cm⟩:∃cv:Array Value,a.eval x= .func (.func f) #[] cv/\cv.size=ln caps/\∀(i:Nat) v,caps[i]? =some v->yI w (xT X β) h β v (cv.getD i undef):=by
  generalize a.eval x=cx at b9
  cases b9 with
  |fz _ _ hf=>cases hf
  |fn _ _ c hl hh=>exact⟨c,rfl,hl,hh⟩
 have ce:(execOp a.eval ⟨d0,.call ⟨.value x,args,b3⟩,y0,p0,f0,g0⟩).run P w= .ok (.enter f (args.map a.eval++cv)) w:=by
  have ck:=hc.able (args.map a.eval++cv) w;simp[execOp,resolve,co,Deferred.ofValue,invoke,ck]
 rw[ce]
 have hK:∀k,k∈xB h0->h k=zD h0 k:=λk hk=>by
  rw[I k (by simp[hk])];obtain⟨i,hi⟩:=zD9 hk;have:=zBb (·[i]?) cp
  grind
 have bu:∀k,zD h0 k=none->¬k∈xB h0:=λk hk z=>by
  obtain⟨e,A⟩:=bI z
  grind
 let βc:uM:=λk=>if k∈xB h0 then β k else []
 have U:∀k,k∈xB h0->βc k=β k:=λk hk=>by simp[βc,hk]
 have ci:∀k,¬k∈xB h0->βc k=[]:=λk hk=>by simp[βc,hk]
 have Y:∀k b n,(b,n)∈βc k->k∈xB h0/\(b,n)∈β k:=λk b n z=>by
  by_cases hk:k∈xB h0
  .rw[U k hk]at z;exact⟨hk,z⟩
  .rw[ci k hk]at z;simp at z
 let B:Bool:=!(jQ (args.toList.map (yX (zK st.tm))++caps)).all ((xB h0).contains ·)
 let Xc:Nat->Prop:=λb=>X b\/(B=false/\∃k n,¬k∈xB h0/\(b,n)∈β k)
 have a1:∀b,xT Xc βc b->xT X β b:=λb hd=>by
  rcases hd with(hx|⟨_,k,n,_,z⟩)|⟨k,n,z⟩
  .exact .inl hx
  .exact .inr ⟨k,n,z⟩
  .exact .inr ⟨k,n,(Y k b n z).2⟩
 have S:∀k e,zD h0 k=some e->Sx (xB h0) e=true:=λk e hk=>by
  obtain⟨p,hp,A⟩:=dW hk;have:=zA5.1 cl p hp;rw[A]at this;exact this
 have b7:∀{v c},yI w (xT X β) h β v c->(∀k,k∈v.refs->k∈xB h0\/∀b n,(b,n)∈β k->¬xT Xc βc b)->yI w (xT Xc βc) (zD h0) βc (qZ (xB h0) h v) c:=λhv cr=>
  yI.fz0 O (λk hk e A=>by
   rw[hK k hk]at A
   cases e with
   |box cs=>exact⟨cs,A⟩
   |obj cs=>exact⟨cs,A⟩
   |arr sz xs fl=>exact⟨xs,fl,A,rfl⟩
   |dead=>exact A) U (λb _ hd h'=>hd (a1 b h')) hv cr
 have a6:∀{v c},yI w (xT X β) h β v c->(∀k,k∈v.refs->k∈xB h0)->yI w (xT Xc βc) (zD h0) βc v c:=by
  intro v c hv;have ef:∀{v c},xM w (xT X β) v c->xM w (xT Xc βc) v c:=λhf=>hf.evo (zAw _) λb _ hd=>⟨rfl,λh'=>hd (a1 b h')⟩
  induction hv with
  |fz v c hf=>exact λ_=> .fz _ _ (ef hf)
  |agg cs c hl h1 _ ih=>exact λI=> .agg cs c hl h1 λi v hv=>ih i v hv λk hk=>I k (by simpa [AV.refs]using wS hv hk)
  |fn f caps c hl _ ih=>exact λI=> .fn f caps c hl λi v hv=>ih i v hv λk hk=>I k (by simpa [AV.refs]using wS hv hk)
  |tup vs c hl _ ih=>exact λI=> .tup vs c hl λi v hv=>ih i v hv λk hk=>I k (by simpa [AV.refs]using wS hv hk)
  |dref k off len c hk h1=>exact λI=> .dref _ _ _ _ ((hK k (I k (by simp[AV.refs])))▸hk) h1
  |dptr k i off c hk h1=>exact λI=> .dptr _ _ _ _ ((hK k (I k (by simp[AV.refs])))▸hk) h1
  |ref k off len sz xs st b n cap hk hb hn hc hs=>exact λI=> .ref k off len sz xs st b n cap ((hK k (I k (by simp[AV.refs])))▸hk) (by rw[U k (I k (by simp[AV.refs]))];exact hb) hn hc hs
  |ref0 k off sz xs st a hk hn=>exact λI=> .ref0 k off sz xs st a ((hK k (I k (by simp[AV.refs])))▸hk) hn
  |pbox k off cs b n hk hb=>exact λI=> .pbox k off cs b n ((hK k (I k (by simp[AV.refs])))▸hk) (by rw[U k (I k (by simp[AV.refs]))];exact hb)
  |parr k i off sz xs st b n hk hb hi ho=>exact λI=> .parr k i off sz xs st b n ((hK k (I k (by simp[AV.refs])))▸hk) (by rw[U k (I k (by simp[AV.refs]))];exact hb) hi ho
 have Hc:jL Xc (zD h0) βc w:=by
  refine⟨λk e A=>?_,λk A=>ci k (bu k A),λk M b n C q1 q2=>O.disj _ _ _ _ _ (Y _ _ _ q1).2 (Y _ _ _ q2).2,λk b n z hx=>?_,λb hd=>O.lt b (a1 b hd)⟩
  .have hk:=uF A
   refine(O.ent k e ((hK k hk).trans A)).lift (U k hk) (λcs bf i v c hi hv=>a6 hv λj hj=>by
    have:=S k e A;rw[bf]at this
    simpa using zA5.1 this j (wS hi hj)) λsz xs fl bz i x j v c hi hj=>⟨λhf=>hf.evo (zAw _) λb _ hd=>⟨rfl,λh'=>hd (a1 b h')⟩,λhn hv=>a6 hv λq hq=>by
    have:=S k e A;rw[bz]at this;simp only[Sx,hn,zB6]at this
    simpa using zA5.1 this q (wS hi (WM hj hq))⟩
  .obtain⟨hk,z⟩:=Y k b n z
   rcases hx with hx|⟨_,M,C,hk',ar⟩
   .exact O.free k b n z hx
   .exact hk' (O.disj k M b n C z ar▸hk)
 have bd:∀(i:Nat) v,(args.toList.map (yX (zK st.tm))++caps)[i]? =some v->yI w (xT X β) h β v ((args.map a.eval++cv).getD i undef):=λi v hi=>by
  rcases yt (ρ:=a.eval) (yX (zK st.tm)) a7 hi with⟨y,hy,rfl,A⟩|⟨j,hj,A⟩
  .rw[A]
   exact fC Ht hg (by
    simp only[Op.operands,Call.operands,Array.mem_append]
    exact .inr hy) Z
  .rw[A];exact cm j v hj
 have bx:∀(i:Nat) v,(args.toList.map (yX (zK st.tm))++caps)[i]? =some v->∀k,k∈v.refs->k∈xB h0\/∀b n,(b,n)∈β k->¬xT Xc βc b:=λi v hi k hk=>by
  by_cases W:k∈xB h0
  .exact .inl W
  .refine .inr λb n z hd=>?_
   have br:B=true:=by
    cases hl:B with
    |true=>rfl
    |false=>
     simp only[B,Bool.not_eq_false']at hl;have:=zA5.1 hl k (wS hi hk);exact absurd Ue W
   rcases hd with(hx|⟨hf,_⟩)|⟨M,C,ar⟩
   .exact O.free k b n z hx
   .rw[br]at hf;cases hf
   .obtain⟨q1,q2⟩:=Y M b C ar;exact W (O.disj k M b n C z q2▸q1)
 have bk:∀(i:Nat) v,(args.toList.map (yX (zK st.tm))++caps)[i]? =some v->qZ (xB h0) (zD st.h) v=qZ (xB h0) h v:=by
  have cj:∀v:AV,(∀k,k∈v.refs->h k=zD st.h k)->qZ (xB h0) (zD st.h) v=qZ (xB h0) h v:=by
   intro v
   refine AV.rec (motive_1:=λv=>(∀k,k∈v.refs->h k=zD st.h k)->qZ (xB h0) (zD st.h) v=qZ (xB h0) h v)
    (motive_2:=λcs=>(∀k,k∈jQ cs->h k=zD st.h k)->vK (xB h0) (zD st.h) cs=vK (xB h0) h cs) ?_ ?_ ?_ ?_ ?_ ?_ ?_ ?_ ?_ ?_ ?_ ?_ ?_ ?_ v
   .exact λ_=>rfl
   .exact λ_ _=>rfl
   .exact λ_ _=>rfl
   .exact λcs ih hk=>by simp only[qZ];rw[ih (by simpa [AV.refs]using hk)]
   .exact λ_ _ _ _=>rfl
   .exact λ_ _ _ _=>rfl
   .exact λk off len hk=>by simp only[qZ];rw[hk k (by simp[AV.refs])]
   .exact λ_ _ _ _=>rfl
   .exact λ_ _ _ _ _=>rfl
   .exact λf cs ih hk=>by simp only[qZ];rw[ih (by simpa [AV.refs]using hk)]
   .exact λcs ih hk=>by simp only[qZ];rw[ih (by simpa [AV.refs]using hk)]
   .exact λ_ _ _=>rfl
   .exact λ_=>rfl
   .exact λv r cw cu hk=>by
     simp only[vK];rw[cw λk h=>hk k (by simp[jQ,h]),cu λk h=>hk k (by simp[jQ,h])]
  exact λi v hi=>cj v λk hk=>I k (by simp[wS hi hk])
 have cf:=hc.sim Xc w βc (args.map a.eval++cv) (by rw[<-b6];simp[a7]) Hc (λi v hi=>by
  rw[<-b6,zAz,zBa]at hi;obtain⟨u,hu,rfl⟩:=hi;rw[bk i u hu]
  exact b7 (bd i u hu) (bx i u hu))
 refine Calls.mono cf ?_;rintro e w' ⟨c,β1,A,G,hv⟩;refine⟨c,A,?_⟩;have cq:=G.lives Hc hc.nd
 let β':uM:=λk=>if(zD h1 k).isSome then β1 k else β k
 have a2:∀k e,zD h1 k=some e->β' k=β1 k:=λk e hk=>by simp[β',hk]
 have a3:∀k,zD h1 k=none->β' k=β k:=λk hk=>by simp[β',hk]
 have bl:∀k,k∈xB h0->∃e,zD h1 k=some e:=λk hk=>by
  obtain⟨e,A⟩:=bI hk
  rcases G.key k e A with h2|h2
  .exact⟨_,h2⟩
  .cases e with
   |dead=>exact h2.elim
   |box cs=>exact⟨_,h2.1.choose_spec⟩
   |obj cs=>exact⟨_,h2.1.choose_spec⟩
   |arr sz xs st=>obtain⟨b1,st',V,_⟩:=h2.1;exact⟨_,V⟩
 have cb:∀k e,zD h1 k=some e->¬k∈xB h0->h k=none:=λk e hk W=>hn k (by
  simp only[zEg,zC9,List.contains_eq_mem,zA4]
  exact⟨uF hk,W⟩)
 have a5:∀k e,zD h1 k=some e->over h1 h k=some e:=λk e hk=>by simp[over,hk]
 have b0:∀k,zD h1 k=none->over h1 h k=h k:=λk hk=>by simp[over,hk]
 have ag:∀k b n,(b,n)∈β' k->((∃e,zD h1 k=some e)/\(b,n)∈β1 k)\/(zD h1 k=none/\¬k∈xB h0/\(b,n)∈β k):=λk b n z=>by
  cases hk:zD h1 k with
  |none=>rw[a3 k hk]at z;exact .inr ⟨rfl,(λh2=>by obtain⟨e,A⟩:=bl k h2;rw[hk]at A;cases A),z⟩
  |some e=>rw[a2 k e hk]at z;exact .inl ⟨⟨e,rfl⟩,z⟩
 have az:∀k b n,(b,n)∈β1 k->(∃M C,M∈xB h0/\(b,C)∈β M)\/w.heap.size<=b:=λk b n z=>by
  rcases G.own k b n z with⟨M,C,h2⟩|h2
  .obtain⟨q1,q2⟩:=Y M b C h2;exact .inl ⟨M,C,q1,q2⟩
  .exact .inr h2
 have av:∀b,b<w.heap.size->(∀k n,k∈xB h0->(b,n)∉β k)->w'.heap[b]? =w.heap[b]? :=λb hb hk=>G.keep b hb λk n z=>by
  obtain⟨q1,q2⟩:=Y k b n z;exact hk k n q1 q2
 have ax:∀k b n,¬k∈xB h0->(b,n)∈β k->w'.heap[b]? =w.heap[b]? :=λk b n hk z=>av b (O.lt b (.inr ⟨k,n,z⟩)) λM C hk' ar=>hk (O.disj k M b n C z ar▸hk')
 have b4:∀k b n,(b,n)∈β k->wO w' b=wO w b:=λk b n z=>by
  by_cases hk:k∈xB h0
  .exact G.bs k b n (by rw[U k hk];exact z)
  .unfold wO World.shape?;rw[ax k b n hk z]
 have a9:∀k e,h k=some e->over h1 h k=some .dead\/match e with
   | .dead=>False
   | .box _=>(∃bb,over h1 h k=some (.box bb))/\∀b n,(b,n)∈β k->(b,n)∈β' k
   | .obj _=>(∃bb,over h1 h k=some (.obj bb))/\∀b n,(b,n)∈β k->(b,n)∈β' k
   | .arr sz xs _=>(∃b1 st',over h1 h k=some (.arr sz b1 st')/\xs.length<=ln b1)/\∀b n,(b,n)∈β k->∃C,n<=C/\(b,C)∈β' k:=λk e A=>by
  by_cases hk:k∈xB h0
  .have cn:=(hK k hk)▸A;have:=G.key k e cn;obtain⟨e1,ac⟩:=bl k hk;rw[ac]at this;rw[a5 k e1 ac,a2 k e1 ac,<-U k hk];exact this
  .have cc:zD h1 k=none:=by
    cases h2:zD h1 k with
    |none=>rfl
    |some e1=>rw[cb k e1 h2 hk]at A;cases A
   rw[b0 k cc,a3 k cc];exact jA h β k e A
 have ba:∀k b n,(b,n)∈β' k->(∃M C,(b,C)∈β M)\/w.heap.size<=b:=λk b n z=>by
  rcases ag k b n z with⟨_,h2⟩|⟨_,_,h2⟩
  .rcases az k b n h2 with⟨M,C,_,V⟩|V
   .exact .inl ⟨M,C,V⟩
   .exact .inr V
  .exact .inl ⟨k,n,h2⟩
 have au:∀b,b<w.heap.size->(∀k n,(b,n)∉β k)->w'.heap[b]? =w.heap[b]? :=λb hb hk=>av b hb λk n _=>hk k n
 have E:EG w (xT X β) h β w' (xT X β') (over h1 h) β':=by
  refine⟨G.size,λb hb hd=>?_,b4,a9⟩;have q1:∀k n,(b,n)∉β k:=λk n z=>hd (.inr ⟨k,n,z⟩)
  refine⟨au b hb q1,?_⟩;rintro(hx|⟨k,n,z⟩)
  .exact hd (.inl hx)
  .rcases ba k b n z with⟨M,C,h2⟩|h2
   .exact q1 _ _ h2
   .omega
 have cg:∀k e,zD h1 k=some e->over h1 h k=some e/\β' k=β1 k:=λk e hk=>⟨a5 k e hk,a2 k e hk⟩
 have b5:B=false->∀b,xT X β' b->xT Xc β1 b:=λhl b hd=>by
  rcases hd with hx|⟨k,n,z⟩
  .exact .inl (.inl hx)
  .rcases ag k b n z with⟨_,h2⟩|⟨_,h2,V⟩
   .exact .inr ⟨k,n,h2⟩
   .exact .inl (.inr ⟨hl,k,n,h2,V⟩)
 have ap:B=false\/(r.nosl=true/\KU h1=true):=by
  rw[zC3]at ca
  rcases ca with h2|h2
  .left;show(!(_:Bool))=false;rw[h2];rfl
  .right;simpa using h2
 have R:∀{v c},(B=false\/v.nosl=true)->yI w' (xT Xc β1) (zD h1) β1 v c->yI w' (xT X β') (over h1 h) β' v c:=λhl hv=>by
  rcases hl with hl|hl
  .exact nk (h':=over h1 h) cg (λb hd _=> .inl (b5 hl b hd)) hv
  .exact zh cg hv hl
 have a4:∀{v c},(B=false\/v.nosl=true)->xM w' (xT Xc β1) v c->xM w' (xT X β') v c:=λhl hv=>by
  rcases hl with hl|hl
  .exact hv.evo (zAw _) λb _ hd=>⟨rfl,λh'=>hd (b5 hl b h')⟩
  .exact hv.free hl
 have HK:jL X (over h1 h) β' w':=by
  refine⟨λk e A=>?_,λk A=>?_,λk M b n C q1 q2=>?_,λk b n z hx=>?_,λb hd=>?_⟩
  .cases hk:zD h1 k with
   |none=>
    rw[b0 k hk]at A;have W:¬k∈xB h0:=λh2=>by obtain⟨e1,ac⟩:=bl k h2;rw[hk]at ac;cases ac
    exact(O.ent k e A).evo E (a3 k hk) λb n z=>ax k b n W z
   | some e1=>
    rw[a5 k e1 hk]at A;obtain rfl:=zD2 A;have cd:B=false\/e1.nosl=true:=ap.imp id λh2=>DP h2.2 hk
    refine(G.hok.ent k e1 hk).lift (a2 k e1 hk) (λcs bf i v c hi hv=>R (cd.imp id λh2=>eK (by rw[bf]at h2;exact h2) hi) hv) λsz xs st bz i x j v c hi hj=>by
     have a8:B=false\/v.nosl=true:=cd.imp id λh2=>by
      have ch:x.nosl=true:=eK (by rw[bz]at h2;exact h2) hi
      cases x<;>first
       |(simp[AV.cells]at hj;cases j<;>simp at hj;subst hj;exact ch)
       |(exact eK (by simpa [AV.nosl,AV.cells]using ch) hj)
     exact⟨λhf=>a4 a8 hf,λ_ hv=>R a8 hv⟩
  .cases hk:zD h1 k with
   |none=>rw[b0 k hk]at A;rw[a3 k hk];exact O.off k A
   |some e1=>rw[a5 k e1 hk]at A;cases A
  .rcases ag k b n q1 with⟨_,h2⟩|⟨_,h2,V⟩<;>rcases ag M b C q2 with⟨_,h4⟩|⟨_,h4,h5⟩
   .exact G.hok.disj _ _ _ _ _ h2 h4
   .rcases az k b n h2 with⟨j,m,hj,z⟩|h6
    .exact absurd (O.disj j M b m C z h5▸hj) h4
    .have:=O.lt b (.inr ⟨M,C,h5⟩);omega
   .rcases az M b C h4 with⟨j,m,hj,z⟩|h6
    .exact absurd (O.disj j k b m n z V▸hj) h2
    .have:=O.lt b (.inr ⟨k,n,V⟩);omega
   .exact O.disj _ _ _ _ _ V h5
  .rcases ag k b n z with⟨_,h2⟩|⟨_,_,V⟩
   .exact G.hok.free k b n h2 (.inl hx)
   .exact O.free k b n V hx
  .rcases hd with hx|⟨k,n,z⟩
   .exact zBy (O.lt b (.inl hx)) G.size
   .rcases ag k b n z with⟨_,h2⟩|⟨_,_,V⟩
    .exact G.hok.lt b (.inr ⟨k,n,h2⟩)
    .exact zBy (O.lt b (.inr ⟨k,n,V⟩)) G.size
 exact⟨β',⟨G.size,au,ba,b4,a9,HK,G.os,G.tape,G.output⟩,R (ap.imp id (·.1)) hv⟩
def zL {C:Array Nat} {A:List AV} {r:AV} (hc:xO P f A h0 r h1) (hx:yX (zK st.tm) x= .fn f caps)
 (B:(args.toList.map (yX (zK st.tm))++caps).map (N9 (xB h0) (zD st.h))=A) (G:(xB h0).map (zD st.h)=(xB h0).map (zD h0)) (E:h0.all (λp=>Sx (xB h0) p.2)=true)
 (I:((jQ (args.toList.map (yX (zK st.tm))++caps)).all ((xB h0).contains ·)||(r.nosl&&KU h1))=true):
  wX P st (.call ⟨.value x,args,C⟩) r h1 (xB h0++jQ (args.toList.map (yX (zK st.tm))++caps)) ((xB h1).filter λk=>!(xB h0).contains k):=
 jK (hc:=⟨hc.able,hc.nd,λX w β z hl H M=>hc.sim X w β z (by rw[hl,<-B];simp) H λi v hi=>by
  rw[<-B,zAz,zBa]at hi;obtain⟨u,O,rfl⟩:=hi
  exact(M i _ (by rw[zAz,O];rfl)).wk⟩) hx Z G E I
end
section
section ops
variable {P:Program} {K0:List Nat} {F:Fr K0} {m:Nat} {ops:Array Oper} {rest:List Oper} {Q:St->Prop} {tm:List (Nat×AV)} {h:List (Nat×xW)}
def xt {st:St} (u:Q st):HA P F m ops [] st Q:=λ_ _ H=>⟨rfl,st,u,H⟩
def sk {o:Oper} {st:St} {st':St} (C:o.guard=none) (I:wX P st o.op v d r nw) (G:∀k,k∈nw->zD st.h k=none) (hd:vX d=true) (E:∀t,o.dst=some t->t<m)
 (B:∀t,zK st'.tm t=if o.dst=some t then v else zK st.tm t) (hh:zD st'.h=over d (zD st.h)) (hk:HA P F m ops rest st' Q):HA P F m ops (o::rest) st Q:=λa w H=>
 wpListIn_plain C λK A=>I.rel H (λ_ _=>rfl) (λ_ _=>rfl) G hd E λz w' u=>A _ _ (hk z w' (by
  have e1:zK st'.tm=λt=>if o.dst=some t then v else zK st.tm t:=funext B
  unfold wK;rw[e1,hh]
  exact u))
section
variable {op:Op} {ty:Nat} {pos:String} {after:Array Edge} {t:Nat} {v:AV} {r nw:List Nat}
end
def XW (ops:Array Oper) (j:Nat):Option Nat:=(ops[j]?).bind (·.dst)
def gw (v:Value) (b:Bool):Bool:=match v with
 | .bool c=>c==b
 |_=>false
def aE {j:Nat} {v:Value} (z:o.guard=some (j,b)) (A:XW ops j=some t) (hv:a.eval (.tmp t)=v):Region.wanted o (yielded ops a.tmps)=gw v b:=by
 subst hv;simp only[Region.wanted,z,yielded,show(ops[j]?).bind (·.dst)=some t from A,Option.bind_some,Act.eval,zBu]
 cases h:a.tmps[t]? with
 |none=>simp[undef,gw]
 |some u=>cases u<;>simp[gw]
def DQ {st:St} (H:wK F m st a w) (hv:zK st.tm t= .s c):a.eval (.tmp t)=c:=by
 obtain⟨⟨_,β,_,_,u,_⟩,_⟩:=H;have:=u t;rw[hv]at this;exact this.s_inv
def Xz {d:Option Nat} {j:Nat} {st:St} (u:XW ops j=some t) (hv:zK st.tm t= .s (.bool b)) (hk:HA P F m ops (⟨d,op,ty,pos,after,none⟩::rest) st Q):
  HA P F m ops (⟨d,op,ty,pos,after,some (j,b)⟩::rest) st Q:=λa w H=>by
 have z:=aE (o:=⟨d,op,ty,pos,after,some (j,b)⟩) Z u (DQ H hv);have:=hk a w H;unfold wpListIn at this⊢;rw[f5 (by rw[z];simp[gw])];rw[f5 (by simp[Region.wanted])]at this;exact this
theorem WK.bot {tm:Nat->AV} {h:yS} (H:WK F m tm h a w) (u:Option Nat) (I:∀t,u=some t->t<m):WK F m (λt=>if u=some t then .s undef else tm t) h (a.put u undef) w:=by
 obtain⟨⟨X,β,G,z,A,B,E,C⟩,M,gs,hl⟩:=H;exact WK.put G z A B E C gs hl (xU.refl z) M (.fz _ _ (.s _)) u I
def vt {d:Nat} {j:Nat} (z:XW ops j=some t) (hv:zK tm t= .s c) (hc:gw c b=false) (u:Nat.blt d m=true) (hk:HA P F m ops rest ⟨(d,.s undef)::tm,h⟩ Q):
  HA P F m ops (⟨some d,op,ty,pos,after,some (j,b)⟩::rest) ⟨tm,h⟩ Q:=λa w H=>by
 have A:=aE (o:=⟨some d,op,ty,pos,after,some (j,b)⟩) Z z (DQ H hv);unfold wpListIn;rw[Os (by rw[A,hc];simp)];refine⟨λ_ _=>trivial,hk _ _ ?_⟩;have:=WK.bot H (some d) (λj hj=>by cases hj;exact zA8 u)
 have e1:zK ((d,.s undef)::tm)=λt=>if some d=some t then AV.s undef else zK tm t:=funext λt=>by rw[xF];simp[eq_comm]
 unfold wK;rw[e1];exact this
theorem Zk {st:St} {t:Nat} {c u:Bool} (hv:zK st.tm t= .s (.bool c)) (hc:c=u) (hk:HA P F m ops l ⟨(t,.s (.bool u))::st.tm,st.h⟩ Q):HA P F m ops l st Q:=λa w H=>hk a w (by
 subst hc
 have e1:zK ((t,.s (.bool c))::st.tm)=zK st.tm:=funext λj=>by
  rw[xF];split
  .rename_i h;subst h;exact hv.symm
  .rfl
 unfold wK;dsimp only;rw[e1]
 exact H)
theorem yh {st:St} {t:Nat} {c:Bool} (hv:zK st.tm t= .s (.bool c)) (h1:c=true->HA P F m ops l ⟨(t,.s (.bool true))::st.tm,st.h⟩ Q) (h2:c=false->HA P F m ops l ⟨(t,.s (.bool false))::st.tm,st.h⟩ Q):HA P F m ops l st Q:=by grind [zK,HA,Zk]
end ops
section code
variable {P:Program} {K0:List Nat} {F:Fr K0} {m:Nat} {Q:Exit->St->Prop} {st:St}
def kW {c:Code} (K u:List Nat) (z:K0.all (K.contains ·)=true) {st':St} (A:restr K u st=st') (h:uD P F m c st' Q):uD P F m c st Q:=⟨λa w H=>h.run a w (A▸wK.restr H K u z)⟩
def wP {c:Code} (I:Nat->St->Prop) (n:Nat) (K A:List Nat) (E:K0.all (K.contains ·)=true) (h0:I n (restr K A st)) (u:∀n st,I n st->uD P F m c st (λe s=>match e with
  | .normal=>∃z,z<n/\I z (restr K A s)
  |e=>Q e s)):uD P F m (.loop c) st Q:=by
 refine kW K A E Z ⟨λa w H=>?_⟩;refine QI (λn a w=>∃st,I n st/\wK F m st a w) n ⟨_,h0,H⟩ λn a w ⟨st,hI,hR⟩=>?_
 refine Code.wpIn_mono (λe a' w' ⟨s,h1,h2⟩=>?_) ((u n st hI).run a w hR)
 cases e with
 |normal=>
  obtain⟨z,C,B⟩:=h1;exact⟨z,C,_,B,wK.restr h2 K A E⟩
 |_=>exact⟨s,h1,h2⟩
end code
def LQ (TT:List TI) (st:St):List ResultVar->Option (List AV)
 | []=>some []
 | .tmp t::r=>(LQ TT st r).map (zK st.tm t:: ·)
 | .cell a T::r=>match zK st.tm a with
  | .ptr k 0 off=>match zD st.h k,TT[T]? with
   |some (.box cs),some ti=>match Da ti.d.agg ti.size cs off with
    |some v=>(LQ TT st r).map (v:: ·)
    |none=>none
   |_,_=>none
  |_=>none
def DS:List AV->AV
 | [v]=>v
 |vs=> .tup vs
def Yk (tmps:Array Value):ResultVar->Sem Value
 | .tmp t=>pure (tmps.getD t undef)
 | .cell b t=>do loadVar t (<-asAddr (tmps.getD b undef))
theorem OU (E:uZ P TT) {st:St} (H:jL X (zD st.h) β w) (z:∀t,yI w (xT X β) (zD st.h) β (zK st.tm t) (a.eval (.tmp t))):
  ∀(l:List ResultVar) (vs:List AV),LQ TT st l=some vs->∃cs:List Value,(l.mapM (Yk a.tmps)).run P w= .ok cs w/\cs.length=ln vs/\
   ∀(i:Nat) v,vs[i]? =some v->yI w (xT X β) (zD st.h) β v (cs.getD i undef)
 | [],vs,h=>by cases h;exact⟨[],rfl,rfl,λi v hv=>by simp at hv⟩
 | .tmp t::r,vs,h=>by
  simp only[LQ,zBa]at h;obtain⟨u,h1,rfl⟩:=h;obtain⟨cs,h2,B,C⟩:=OU E H z r u h1;refine⟨a.tmps.getD t undef::cs,by simp only[zF9,Yk,Sem.run_bind,Sem.run_pure,Result.andThen_ok,h2],by simp[B],λi v hv=>?_⟩
  cases i with
  |zero=>simp at hv;subst hv;exact z t
  |succ i=>simpa using C i v DZ
 | .cell b T::r,vs,h=>by
  simp only[LQ]at h;split at h
  .rename_i k off hb;split at h
   .rename_i cs ti hk hT;split at h
    .rename_i v hv;rw[zBa]at h;obtain⟨u,h1,rfl⟩:=h;obtain⟨A,h2,B,C⟩:=OU E H z r u h1;have M:=z b;rw[hb]at M;obtain⟨O,hc,_,S⟩:=PJ H hk M;obtain⟨c,I,R⟩:=HT E hT S hv;rw[zB7]at I;have G:a.tmps.getD b undef= .pointer (some ⟨O,off,none⟩):=hc;refine⟨c::A,by simp only[zF9,Yk,Sem.run_bind,G,asAddr,Sem.run_pure,Result.andThen_ok,I,h2],by simp[B],λi v hv=>?_⟩
     cases i with
     |zero=>simp at hv;subst hv;exact R
     |succ i=>simpa using C i v DZ
    .cases h
   .cases h
  .cases h
def UE:Nat->List AV->List (Nat×AV)
 |_,[]=>[]
 |i,v::r=>(i,v)::UE (i+1) r
theorem WN:∀(l:List AV) (i t:Nat),zK (UE i l) t=if i<=t then l.getD (t-i) .bot else .bot
 | [],i,t=>by simp[UE,zK]
 | v::r,i,t=>by
  rw[UE,xF,WN r];by_cases h:t=i
  .subst h;simp
  .rw[Os h];by_cases h2:i<=t
   .rw[f5 h2,f5 (by omega),show t-i=(t-(i+1))+1 by omega];simp
   .rw[Os h2,Os (by omega)]
def Fin (TT:List TI) (u:List ResultVar) (h0:List (Nat×xW)) (r:AV) (h1:List (Nat×xW)) (e:Exit) (st:St):Prop:=
 (e= .normal\/e= .ret)/\∃vs K,LQ TT st u=some vs/\(xB h0).all (K.contains ·)=true/\(r=wT K (zD st.h) (DS vs)\/r=ZC (wT K (zD st.h) (DS vs)))/\zD h1=zD (wU K (zD st.h))
def zH {u:List ResultVar} {r:AV} {st:St} {vs:List AV} (K:List Nat) (h:LQ TT st u=some vs) (z:(xB h0).all (K.contains ·)=true) (A:ZC (wT K (zD st.h) (DS vs))=r) (hh:wU K (zD st.h)=h1):
 Fin TT u h0 r h1 .ret st:=⟨.inr Z,vs,K,h,z,.inr A.symm,by rw[hh]⟩
def zP {u:List ResultVar} {r:AV} {st:St} {vs:List AV} (K:List Nat) (h:LQ TT st u=some vs) (z:(xB h0).all (K.contains ·)=true) (A:wT K (zD st.h) (DS vs)=r) (hh:wU K (zD st.h)=h1):
 Fin TT u h0 r h1 .ret st:=⟨.inr Z,vs,K,h,z,.inl A.symm,by rw[hh]⟩
theorem xM.less (h:∀b,D' b->D b) (hv:xM w D v c):xM w D' v c:=
 hv.evo (zAw _) λb _ hd=>⟨rfl,λh'=>hd (h b h')⟩
theorem yI.less {X':Nat->Prop} (u:∀b,X' b->X b) (hv:yI w (xT X β) h β v c):yI w (xT X' β) h β v c:=
 hv.evo ⟨zAw _,λb _ hd=>⟨rfl,λh'=>hd (h'.imp (u b) id)⟩,λ_ _ _ _=>rfl,jA h β⟩
theorem jL.less {X':Nat->Prop} (u:∀b,X' b->X b) (H:jL X h β w):jL X' h β w:=
 ⟨λk e z=>(H.ent k e z).evo ⟨zAw _,λb _ hd=>⟨rfl,λh'=>hd (h'.imp (u b) id)⟩,λ_ _ _ _=>rfl,jA h β⟩ rfl λ_ _ _=>rfl,H.off,H.disj,λk b n A hx=>H.free k b n A (u b hx),λb hd=>H.lt b (hd.imp (u b) id)⟩
def UF (H:jL X h β w) (z:w.heap.size<=w'.heap.size) (hk:∀b,b<w.heap.size->¬X b->w'.heap[b]? =w.heap[b]?):EG w (xT X β) h β w' (xT X β) h β:=
 ⟨z,λb hb hd=>⟨hk b hb λhx=>hd (.inl hx),hd⟩,λk b n u=>by
  unfold wO World.shape?
  rw[hk b (H.lt b (.inr ⟨k,n,u⟩)) (H.free k b n u)],jA h β⟩
theorem jL.turn (H:jL X h β w) (z:w.heap.size<=w'.heap.size) (hk:∀b,b<w.heap.size->¬X b->w'.heap[b]? =w.heap[b]?):jL X h β w':=
 ⟨λk e A=>(H.ent k e A).evo (UF H z hk) Z λb n u=>hk b (H.lt b (.inr ⟨k,n,u⟩)) (H.free k b n u),H.off,H.disj,H.free,λb hd=>zBy (H.lt b hd) z⟩
theorem UG {fn:Func} {tmps:Array Value} {R:Ending->World->Prop}:∀(u:List Nat) (w:World),u.Nodup->(∀b,b∈u->w.heap[b]? =some (.deferred (some [])))->
  (∀w',w'.heap.size=w.heap.size->(∀b,¬b∈u->w'.heap[b]? =w.heap[b]?)->w'.os=w.os->w'.tape=w.tape->w'.output=w.output->∃v,(results fn tmps).run P w'= .ok v w'/\R (.returned v) w')->
  LeavesInM Fence.wide 0 P fn tmps R (u.map λb=>{target:= .collected b,args:= #[]}) .returning w
 | [],w,_,_,h=>h w Z (λ_ _=>rfl) Z Z Z
 |b::u,w,E,hb,h=>by
  have z:=List.nodup_cons.1 E;refine⟨by simp,.inl ⟨b,w.putObj b (.deferred none),rfl,run_takeDeferred (hb b zV),UG u _ z.2 (λc hc=>?_) (λw' h1 h2 A B C=>?_)⟩⟩
  .rw[World.putObj_heap_other (show c≠b from λe=>z.1 (by rw[<-e];exact hc))];exact hb c (by simp[hc])
  .refine h w' (by rw[h1];simp) (λc hc=>?_) A B C;simp at hc;rw[h2 c hc.2,World.putObj_heap_other hc.1]
theorem WP (hP:uZ P TT) {fn:Func} {body:Code} {args:List AV} {r:AV} (hf:P.funcs[f]? =some fn) (hb:fn.body=some body) (au:bH P f) (S:Nat.ble (ln args) fn.ntmps=true)
 (az:vX  h0=true) (a1:vX h1=true) (h:∀F:Fr (xB h0),F.ro=none/\F.it=false->uD P F fn.ntmps body ⟨UE 0 args,h0⟩ (Fin TT fn.results.toList h0 r h1)) (bf:Nat.ble fn.ntmps GS=true:=by rfl):xO P f args h0 r h1:=by
  refine⟨au,λk=>qG a1,λX w β B b0 H V=>(callsIn_wide (n:=0)).1 ?_⟩;have S:=zA8 S
  let F:Fr (xB h0):=⟨X,w,β,zD h0,λk b n u=>by
    cases hk:zD h0 k with
    |none=>rw[H.off k hk]at u;simp at u
    |some e=>exact uF hk,λk e E=>uF E,none,false,λ_=>False,λ_ _ _ _=>True,λ_ _ _ _ _ _ _ _ _ _ _ _ _ _=>trivial⟩
  refine callsIn_of_wp_marks (F:=Fence.wide) (n:=0) hf hb trivial (Code.wpIn_mono (λe U w1 q=>?_) ((h F ⟨rfl,rfl⟩).run _ w ⟨⟨X,β,⟨λ_ h=>h,λ_ h=> .inl h⟩,H,λt=>?_,⟨λk e E=>?_,zAw _,λ_ _ _ _=>rfl,λk b n u=> .inl ⟨k,n,u⟩,λk b n u=>⟨n,zAw _,u⟩,λ_ _ _ _=>rfl,rfl,rfl,rfl⟩,λ_ _=>trivial,[],rfl,λ_=>rfl,zFj,λb hb=>by simp at hb⟩,λk=>qG az,zA8 bf,by simp;omega⟩)) Z
  · obtain ⟨st,⟨E,vs,K,hv,hK,hr,hh⟩,R⟩:=q;obtain⟨⟨X2,β2,⟨ax,_⟩,G,ar,z,_,bs,bd,_,ba,W⟩,b4,_,b3⟩:=R
    have av:LeavesInM Fence.wide 0 P fn U.tmps (λe w'=>∃c β',e= .returned c/\xU X w (zD h0) β w' (zD h1) β'/\yI w' (xT X β') (zD h1) β' r c) U.defers .returning w1:=by
     rw[bd];refine UG bs w1 ba (λb hb=>(W b hb).2.2) λw' sz kp o1 o2 o3=>?_
     have ap:∀b,b<w1.heap.size->¬X2 b->w'.heap[b]? =w1.heap[b]? :=λb _ hx=>kp b λu=>hx (W b u).1
     have H2:=G.turn (zCx sz.symm) ap;have a7:=λt=>(ar t).evo (UF G (zCx sz.symm) ap)
     have C:fB F (zD st.h) β2 w':=⟨z.knd,by rw[sz];exact z.size,λb hb hi hn=>by rw[kp b λu=>by have:=(W b u).2.1;omega];exact z.keep b hb hi hn,z.own,z.pas,λk b n u=>by
      rw[<-z.bs k b n u];obtain⟨n',_,A⟩:=z.pas k b n u;unfold wO World.shape?
      rw[ap b (G.lt b (.inr ⟨k,n',A⟩)) (G.free k b n' A)],o1.trans z.os,o2.trans z.tape,o3.trans z.output⟩
     obtain⟨cs,q1,q2,q3⟩:=OU hP H2 a7 _ _ hv;obtain⟨a6,a5⟩:=H2.restr K;have H3:=a6.less ax;have a4:=λv c hv=>(a5 v c hv).less ax
     have a3:∃c,(results fn U.tmps).run P w'= .ok c w'/\yI w' (xT X2 β2) (zD st.h) β2 (DS vs) c:=by
       have u:(fn.results.mapM (Yk U.tmps)).run P w'= .ok cs.toArray w':=by
         rw[<-Array.toArray_toList (xs:=fn.results),List.mapM_toArray];simp only[Sem.run_map,q1,Result.andThen_ok]
       have a2:(results fn U.tmps).run P w'= .ok (if h:cs.toArray.size=1 then cs.toArray[0]else .tuple cs.toArray) w':=by
         show(fn.results.mapM (Yk U.tmps) >>= λvs=>pure (if h:vs.size=1 then vs[0]else .tuple vs)).run P w'=_
         rw[Sem.run_bind,u];rfl
       refine⟨_,a2,?_⟩;by_cases h1:ln cs=1
       · rw[zF1 CA]
         match cs,vs,h1,q2,q3 with
         | [c],[v],_,_,q3=>exact q3 0 v Z
       · rw[dif_neg CA]
         have bl:DS vs= .tup vs:=by
           match vs,q2 with
           | [],_=>rfl
           | [v],q2=>exact absurd q2 h1
           |_::_::_,_=>rfl
         rw[bl];exact .tup vs _ (by simpa using q2) λi v hi=>by simpa [pi]using q3 i v hi
     obtain⟨c,Y,I⟩:=a3
     have ac:∃c β',Ending.returned c= .returned c/\(results fn U.tmps).run P w'= .ok c w'/\xU X w (zD h0) β w' (zD h1) β'/\yI w' (xT X β') (zD h1) β' r c:=by
       refine⟨c,λk=>if k∈K then β2 k else [],rfl,Y,?_,?_⟩
       · rw [hh];refine⟨C.size,λb hb hn=>C.keep b hb (λhf=>hf) hn,λk b n u=>?_,C.bs,λk e E=> .inr ?_,H3,C.os,C.tape,C.output⟩
         · (try dsimp only at u)
           split at u
           · exact C.own k b n u
           · simp at u
         · have O:k∈K:=by
             have:=zA5.1 hK k (uF E);simpa using this
           have h1:=C.knd k e E;have ag:∀e',zD st.h k=some e'->zD (wU K (zD st.h)) k=some (kC K (zD st.h) e'):=λe' h2=>by rw[wG,f5 O,h2];rfl
           cases e with
           |dead=>exact h1
           | box bz=>
             obtain⟨a8,h2⟩:=h1;refine⟨⟨_,ag _ h2⟩,λb n u=>?_⟩
             (try dsimp only)
             rw[f5 O];obtain⟨n',bk,A⟩:=C.pas k b n u;obtain⟨b2,_,_,e2,_⟩:=H2.ent k _ h2;obtain⟨b1,_,_,e1,_⟩:=H.ent k _ E;rw[e1]at u;rw[e2]at A⊢;simp at u A⊢;exact⟨A.1,u.2⟩
           | obj cs=>
             obtain⟨a8,h2⟩:=h1;refine⟨⟨_,ag _ h2⟩,λb n u=>?_⟩
             (try dsimp only)
             rw[f5 O];obtain⟨n',bk,A⟩:=C.pas k b n u;have e2:=(H2.ent k _ h2).1;have e1:=(H.ent k _ E).1;rw[e1]at u;rw[e2]at A⊢;simp at u A⊢;exact⟨A.1,u.2⟩
           | arr sz xs sl=>
             obtain⟨bu,br,h2,h3⟩:=h1;obtain⟨bx,a9,h4,h5⟩:=gO K (zD st.h) sz bu br;refine⟨⟨bx,a9,(ag _ h2).trans (by rw[h4]),by rw[h5];exact h3⟩,λb n u=>?_⟩
             (try dsimp only)
             rw[f5 O];exact C.pas k b n u
       · rw[hh]
         rcases hr with rfl|rfl
         · exact a4 _ _ I
         · exact(a4 _ _ I).wk
     obtain⟨c,β',_,Y,I,bb⟩:=ac;exact⟨c,Y,c,β',rfl,I,bb⟩
    rcases E with rfl|rfl
    all_goals exact av
  · show yI w (xT X β) (zD h0) β (zK (UE 0 args) t) _
    rw[WN,f5 (zA9 _),zFg];by_cases ht:t<ln args
    · have h2:args[t]? =some (args.getD t .bot):=by simp[pi,ht]
      have:=V t _ h2
      have e:Act.eval {tmps:=B++Array.replicate (fn.ntmps-B.size) undef,defers:=[]} (.tmp t)=B.getD t undef:=by
        simp only[Act.eval,zBu];rw[zCu (by omega)]
      rw[e];exact this
    · have:args.getD t .bot= .bot:=by simp[pi,zB4 (by omega:ln args<=t)]
      rw[this];exact .fz _ _ (.bot _)
  · have M:zD h0 k=some e:=E
    cases e with
    |dead=>exact absurd M (qG az)
    |box cs=>exact⟨cs,M⟩
    |obj cs=>exact⟨cs,M⟩
    |arr sz xs sl=>exact⟨xs,sl,M,zAw _⟩
end
def eX (l:Array Bool) (i:Nat):Bool:=l.getD i false
def binds (e:Edge):Bool:=Region.binds .any e
def ut (ops:Array Oper):Bool:=(pb ops.size).all λi=>((ops[i]?).map λo=>o.after.all λe=>!binds e||decide (e.on<i)).getD false
def qt (T:List Nat):List Edge->Nat->Nat
 | [],m=>m
 |e::r,m=>qt T r (bif binds e then m ||| (2 ^ e.on ||| T.getD e.on 0)else m)
def Rx:List Oper->List Nat->List Nat
 | [],T=>T
 |o::r,T=>Rx r (T++[qt T o.after.toList 0])
def OV (ops:List Oper):List Nat:=Rx ops []
def M9 (ops:Array Oper) (T:List Nat):Bool:=
 (pb ops.size).all λi=>((ops[i]?).map λo=>Nat.beq (T.getD i 0) (qt T o.after.toList 0)).getD false
def jt (T:List Nat) (i j:Nat):Bool:=(T.getD i 0).testBit j
theorem DT (T:List Nat) (j:Nat):∀(l:List Edge) (m:Nat),(qt T l m).testBit j=true->m.testBit j=true\/∃e,e∈l/\binds e=true/\(e.on=j\/jt T e.on j=true)
 | [],m,h=> .inl h
 | e::r,m,h=>by
  rcases DT T j r _ h with h1|⟨e',h1,h2,h3⟩
  .cases hb:binds e with
   |false=>rw[hb]at h1;exact .inl h1
   |true=>
    rw[hb,zB6,Nat.testBit_or,Nat.testBit_or,Nat.testBit_two_pow,zC3,zC3]at h1
    rcases h1 with h1|h1|h1
    .exact .inl h1
    .exact .inr ⟨e,by simp,hb,.inl CA⟩
    .exact .inr ⟨e,by simp,hb,.inr h1⟩
  .exact .inr ⟨e',by simp[h1],h2,h3⟩
theorem UH (l:Array Bool) (i j:Nat) (hi:i<l.size):eX (l.setIfInBounds i true) j=if j=i then true else eX l j:=by
 unfold eX;by_cases e:j=i
 .simp_all [eX]
 .rw[Os e];simp only[zBu,Array.getElem?_setIfInBounds_ne (Ne.symm e)]
def Sr (p:Nat->Bool):Nat->Nat
 |0=>0
 |k+1=>Sr p k+if p k then 1 else 0
theorem xh {p q:Nat->Bool} (n:Nat) (h:∀i,i<n->p i=q i):Sr p n=Sr q n:=by
 induction n with
 |zero=>rfl
 |succ n u=>unfold Sr;rw[u λi hi=>h i (by omega),h n (by omega)]
def Wz (p:Nat->Bool) (n:Nat):Sr p n<=n:=by
 induction n with
 |zero=>exact zAw _
 |succ n u=>unfold Sr;split<;>omega
theorem me {p q:Nat->Bool} (n i:Nat) (hi:i<n) (u:p i=false) (h:∀j,j≠i->q j=p j):Sr q n=Sr p n+if q i then 1 else 0:=by
 induction n with
 |zero=>omega
 |succ n z=>
  grind [Sr,xh]
section
variable {ops:Array Oper} {T:List Nat}
theorem HC (A:ut ops=true) (hT:M9 ops T=true) {l:Array Bool} (hd:∀i o,ops[i]? =some o->eX l i=true->∀e∈o.after,binds e=true->eX l e.on=true):
  ∀(n i:Nat) (o:Oper),i<n->ops[i]? =some o->(∀e∈o.after,binds e=true->eX l e.on=true)->∀j,jt T i j=true->eX l j=true:=by
 intro n
 induction n with
 |zero=>intro i o h;omega
 | succ n I=>
  intro i o C z B j hj;have hi:i<ops.size:=(zC4.1 z).1;have h1:=zA5.1 hT i (zBi.2 hi);simp only[z,zCn,zDm]at h1;unfold jt at hj;rw[zBo h1]at hj
  rcases DT T j _ _ hj with h2|⟨x,hx,hb,h2⟩
  .simp at h2
  have u:x∈o.after:=by simpa using hx
  have hl:=B _ u hb
  rcases h2 with h2|h2
  .grind
  .have E:=zA5.1 A i (zBi.2 hi);obtain⟨y,G,rfl⟩:=Array.getElem_of_mem u
   grind
theorem bJ {l:Array Bool} (z:l.size=ops.size) (h:i∈Region.ready .any ops l):∃o,ops[i]? =some o/\eX l i=false/\∀e∈o.after,binds e=true->eX l e.on=true:=by
 unfold Region.ready at h;rw[zEg,zBi]at h;obtain⟨hi,h⟩:=h;have u:ops[i]? =some ops[i]:=by simp[hi]
 simp only[u,zCn,zDm,zA2,zC9,Array.all_eq_true,zC3]at h
 grind [eX,binds,Array.getD_eq_getD_getElem?,Array.getElem?_eq_getElem,Array.getElem_of_mem]
def wh (B:ut ops=true) {l:Array Bool} (I:l.size=ops.size) (h:Region.ready .any ops l=[]):∀n i,i<n->i<ops.size->eX l i=true:=by
 intro n
 induction n with
 |zero=>intro i h;omega
 | succ n G=>
  intro i C hi
  cases hl:eX l i with
  |true=>rfl
  | false=>
   exfalso
   have A:i∈Region.ready .any ops l:=by
    unfold Region.ready;rw[zEg,zBi];refine⟨hi,?_⟩;have E:ops[i]? =some ops[i]:=by simp[hi]
    have u:=zA5.1 B i (zBi.2 hi);simp only[E,zCn,zDm,zA2,zC9,Array.all_eq_true,zC3,zAx]at u⊢;refine⟨?_,λx hx=>?_⟩
    .unfold eX at hl;simp only[zBu]at hl⊢;rw[Array.getElem?_eq_getElem (by omega)]at hl⊢;simpa using hl
    .rcases u x hx with z|z
     .exact .inl z
     .exact .inr (G _ (by omega) (by omega))
   rw[h]at A;cases A
end
structure OW where
 on:Bool
 v:AV
 d:List (Nat×xW)
 r:List Nat
 nw:List Nat
def St.app (st:St) (u:Option Nat) (v:AV) (d:List (Nat×xW)):St:=⟨match u with
 |some t=>(t,v)::st.tm
 |none=>st.tm,d++st.h⟩
variable {st st':St}
def gOf (ops:Array Oper) (o:Oper):List Nat:=match o.guard with
 |some (j,_)=>(XW ops j).toList
 |none=>[]
def KV (P:Program) (m:Nat) (ops:Array Oper) (o:Oper) (st:St) (e:OW):Prop:=
 vX e.d=true/\(∀t,o.dst=some t->t<m)/\(∀k,k∈e.nw->zD st.h k=none)/\
 (e.on=true->wX P st o.op e.v e.d e.r e.nw)/\(e.on=false->e.v= .s undef/\e.d=[])/\
 match o.guard with
  |none=>e.on=true
  |some (j,b)=>∃t c,XW ops j=some t/\zK st.tm t= .s c/\e.on=gw c b
def Tr (P:Program) (m:Nat) (ops:Array Oper):List Oper->St->List OW->St->Prop
 | [],st,[],st'=>st=st'
 |o::l,st,e::u,st'=>KV P m ops o st e/\Tr P m ops l (st.app o.dst e.v e.d) u st'
 |_,_,_,_=>False
def jE (L:Nat->Bool):Nat->List (Option Nat×OW)->St->St
 |_,[],st=>st
 |i,(dst,e)::r,st=>jE L (i+1) r (bif L i then st.app dst e.v e.d else st)
def UI (st:St) (u:Option Nat) (v:AV) (d:List (Nat×xW)) (t:Nat):zK (st.app u v d).tm t=if u=some t then v else zK st.tm t:=by
 cases u with
 |none=>simp[St.app]
 |some j=>simp only[St.app,xF,zCd];by_cases h:t=j<;>simp[h,eq_comm]
def YS (st:St) (u:Option Nat) (v:AV) (d:List (Nat×xW)) (k:Nat):zD (st.app u v d).h k=over d (zD st.h) k:=by
 show zD (d++st.h) k=_
 rw[vD]
theorem UJ {u:Nat->Bool} :∀(r:List (Option Nat×OW)) (i:Nat) (st st':St),zK st.tm t=zK st'.tm t->(∀(j:Nat) p,r[j]? =some p->p.1=some t->L (i+j)=u (i+j))->
  zK (jE L i r st).tm t=zK (jE u i r st').tm t
 | [],_,_,_,h,_=>h
 | (dst,e)::r,i,st,st',h,hl=>by
  refine UJ r (i+1) _ _ ?_ λj p z h1=>by have:=hl (j+1) p (by simpa using z) h1;rwa [show i+1+j=i+(j+1) by omega]
  by_cases hd:dst=some t
  .have:=hl 0 (dst,e) Z hd;simp only[zDh]at this;rw[this];cases u i
   .exact h
   .simp only[zB6,UI,hd,zE0]
  .cases L i<;>cases u i<;>simp only[zB6,zCt,UI,Os hd,h]
def DU (hk:¬k∈xB d):over d h k=h k:=by
 unfold over
 cases u:zD d k with
 |none=>rfl
 |some e=>exact absurd (uF u) hk
def re (hk:k∈xB d):over d h k=over d h' k:=by
 obtain⟨e,u⟩:=bI hk;simp[over,u]
theorem YT {u:Nat->Bool} :∀(r:List (Option Nat×OW)) (i:Nat) (st st':St),zD st.h k=zD st'.h k->(∀(j:Nat) p,r[j]? =some p->k∈xB p.2.d->L (i+j)=u (i+j))->
  zD (jE L i r st).h k=zD (jE u i r st').h k
 | [],_,_,_,h,_=>h
 | (dst,e)::r,i,st,st',h,hl=>by
  refine YT r (i+1) _ _ ?_ λj p z h1=>by have:=hl (j+1) p (by simpa using z) h1;rwa [show i+1+j=i+(j+1) by omega]
  by_cases hd:k∈xB e.d
  .have:=hl 0 (dst,e) Z hd;simp only[zDh]at this;rw[this];cases u i
   .exact h
   .simp only[zB6,YS];exact re hd
  .cases L i<;>cases u i<;>simp only[zB6,zCt,YS,DU hd,h]
theorem Ze :∀(l:List Oper) (u:List OW) (i:Nat) (st st':St),Tr P m ops l st u st'->(∀j,j<ln l->L (i+j)=true)->jE L i (l.zipWith (λo e=>(o.dst,e)) u) st=st'
 | [],[],_,_,_,h,_=>h
 |o::l,e::u,i,st,st',h,hl=>by
  simp only[zD4,jE];rw[show L i=true from hl 0 zV];exact Ze l u (i+1) _ st' h.2 λj hj=>by have:=hl (j+1) (by simpa using hj);rwa [show i+1+j=i+(j+1) by omega]
 | [],_::_,_,_,_,h,_=>h.elim
 |_::_,[],_,_,_,h,_=>h.elim
theorem UK :∀(r:List (Option Nat×OW)) (i:Nat) (st:St),(∀j,j<ln r->L (i+j)=false)->jE L i r st=st
 | [],_,_,_=>rfl
 |(dst,e)::r,i,st,h=>by
  unfold jE;rw[show L i=false from h 0 zV];exact UK r (i+1) st λj hj=>by have:=h (j+1) (by simpa using hj);rwa [show i+1+j=i+(j+1) by omega]
theorem Tr.len :∀{l:List Oper} {u:List OW} {st st':St},Tr P m ops l st u st'->ln u=ln l
 | [],[],_,_,_=>rfl
 |o::l,e::u,_,_,h=>by simp[Tr.len h.2]
 | [],_::_,_,_,h=>h.elim
 |_::_,[],_,_,h=>h.elim
theorem Tr.at :∀{l:List Oper} {u:List OW} {st st':St} (i k:Nat) (o:Oper) (e:OW),Tr P m ops l st u st'->l[i]? =some o->u[i]? =some e->
  KV P m ops o (jE (λj=>decide (j<k+i)) k (l.zipWith (λo e=>(o.dst,e)) u) st) e/\
   jE (λj=>decide (j<k+i+1)) k (l.zipWith (λo e=>(o.dst,e)) u) st=(jE (λj=>decide (j<k+i)) k (l.zipWith (λo e=>(o.dst,e)) u) st).app o.dst e.v e.d
 | A::l,z::u,st,st',0,k,o,e,h,h1,h2=>by
  simp at h1 h2;subst h1 h2;have q1:jE (λj=>decide (j<k+0)) k ((A::l).zipWith (λo e=>(o.dst,e)) (z::u)) st=st:=UK _ _ _ λj _=>by simp
  have C:jE (λj=>decide (j<k+0+1)) k ((A::l).zipWith (λo e=>(o.dst,e)) (z::u)) st=st.app A.dst z.v z.d:=by
   simp only[zD4,jE,show decide (k<k+0+1)=true by simp,zB6];exact UK _ _ _ λj _=>by simp
  rw[q1,C];exact⟨h.1,rfl⟩
 |A::l,z::u,st,st',i+1,k,o,e,h,h1,h2=>by
  have B:=Tr.at i (k+1) o e h.2 CA CB;simp only[zD4,jE,show decide (k<k+(i+1))=true by simp,show decide (k<k+(i+1)+1)=true by simp;omega,zB6];rw[show k+(i+1)=k+1+i by omega];exact B
 | [],[],_,_,_,_,_,_,_,h1,_=>by simp at h1
 | [],_::_,_,_,_,_,_,_,h,_,_=>h.elim
 |_::_,[],_,_,_,_,_,_,h,_,_=>h.elim
structure FP where
 on:Bool
 w:List Nat
 r:List Nat
def OW.fp (e:OW):FP:=⟨e.on,xB e.d++e.nw,e.r⟩
def uh (ops:Array Oper) (o:Oper):List Nat:=gOf ops o++fI o.op
def cM (ops:Array Oper) (B z:Oper) (A u:FP):Bool:=
 (match B.dst with|some t=>(uh ops z).contains t||z.dst==some t|none=>false)||(match z.dst with|some t=>(uh ops B).contains t|none=>false)||
  A.w.any (λk=>u.w.contains k||u.r.contains k)||u.w.any (λk=>A.r.contains k)
def KW (l:List Oper) (T:List Nat) (fs:List FP):Bool:=
 ut l.toArray&&M9 l.toArray T&&(pb (ln l)).all λj=>(pb j).all λi=>match l[i]?,l[j]?,fs[i]?,fs[j]? with
  |some A,some B,some u,some z=>jt T j i|| !cM l.toArray A B u z
  |_,_,_,_=>false
section
variable {P:Program} {K0:List Nat} {F:Fr K0} {m:Nat}
theorem WK.congr {u:Nat->AV} (R:WK F m tm h a w) (e1:∀t,u t=tm t) (z:∀k,h' k=h k):WK F m u h' a w:=by
 obtain rfl:u=tm:=funext e1;obtain rfl:h'=h:=funext z;exact R
def WQ (l:List Oper) (n:Nat) (T:List Nat) (fs:List FP):Bool:=
 ut l.toArray&&M9 l.toArray T&&((pb n).all λj=>(pb j).all λi=>match l[i]?,l[j]?,fs[i]?,fs[j]? with
  |some A,some B,some u,some z=>jt T j i|| !cM l.toArray A B u z
  |_,_,_,_=>false)&&Nat.ble n (ln l)&&((pb (ln l)).all λj=>Nat.blt j n||(pb j).all λi=>jt T j i)
theorem KX {id:Nat} (n:Nat) {es:List OW} {Q:Exit->St->Prop} (hm:P.follows .mixedOrders=true) (hT:Tr P m l.toArray (l.take n) st es st') (hC:WQ l n (OV l) (es.map OW.fp)=true) (hB:HA P F m l.toArray (l.drop n) st' (Q .normal)):
  uD P F m (.region id l.toArray true) st Q:=by
 refine⟨?_⟩;intro a w H;unfold WQ at hC;rw[zA2,zA2,zA2,zA2,zA5,zA5]at hC;obtain⟨⟨⟨⟨hA,a7⟩,hX⟩,a9⟩,hY⟩:=hC;have a9:=zA8 a9;generalize OV l=T at *;have br:=hT.len;rw[zBg,Nat.min_eq_left a9]at br
 have a6:∀(i:Nat) o,(l.take n)[i]? =some o->l[i]? =some o/\i<n:=λi o h=>by
  have h1:i<n:=by
   have:=(zBj.1 h).1;rw[zBg]at this;omega
  rw[List.getElem?_take_of_lt h1]at h;exact⟨h,h1⟩
 have b2:∀i j,n<=j->j<ln l->i<j->jt T j i=true:=λi j h1 h2 U=>by
  have:=hY j (zBi.2 h2);rw[show Nat.blt j n=false by cases hb:Nat.blt j n with|false=>rfl|true=>exact absurd (zA8 hb) (by omega),zC5,zA5]at this;exact this i (zBi.2 U)
 let R:=(l.take n).zipWith (λo e=>(o.dst,e)) es
 have hR:∀(j:Nat) p,R[j]? =some p->∃o e,(l.take n)[j]? =some o/\es[j]? =some e/\p=(o.dst,e):=λj p W=>by
  simp only[R,List.getElem?_zipWith]at W
  cases I:(l.take n)[j]? with
  |none=>simp[I]at W
  |some o=>cases he:es[j]? with
   |none=>simp[I,he]at W
   |some e=>simp[I,he]at W;exact⟨o,e,rfl,rfl,W.symm⟩
 have b3:∀i j oi C ei z,i<j->(l.take n)[i]? =some oi->(l.take n)[j]? =some C->es[i]? =some ei->es[j]? =some z->cM l.toArray oi C ei.fp z.fp=true->jt T j i=true:=λi j oi C ei z bs h1 h2 U h4 h5=>by
  have:=zA5.1 (hX j (zBi.2 (a6 j C h2).2)) i (zBi.2 bs);simp only[(a6 i oi h1).1,(a6 j C h2).1,zAz,U,h4,zCn,h5,zFu,zFv]at this;simpa using this
 let QQ:Exit->Act->World->Prop:=λe M w'=>e= .normal/\∃s,Q .normal s/\wK F m s M w'
 let J0:Array Bool->Prop:=λL=>L.size=l.toArray.size/\(∀i o,l.toArray[i]? =some o->eX L i=true->∀e∈o.after,binds e=true->eX L e.on=true)
 let JA:Array Bool->Act->World->Prop:=λL a w=>J0 L/\(∀i,n<=i->eX L i=false)/\WK F m (zK (jE (eX L) 0 R st).tm) (zD (jE (eX L) 0 R st).h) a w
 let JB:Array Bool->Act->World->Prop:=λL a w=>J0 L/\∃k,(∀i,eX L i=decide (i<n+k))/\n+k<=ln l/\wpListIn (DO F.ro) 0 P l.toArray QQ (l.drop (n+k)) a w
 let J:Array Bool->Act->World->Prop:=λL a w=>JA L a w\/JB L a w
 have a1:∀L a w,J L a w->J0 L:=λL a w h=>h.elim (λh=>h.1) (λh=>h.1)
 have b1:∀L a w,JA L a w->(∀i,i<n->eX L i=true)->JB L a w:=λL a w B V=>by
  refine⟨B.1,0,λi=>?_,a9,?_⟩
  .by_cases h:i<n
   .rw[V i h];simp[h]
   .rw[B.2.1 i (by omega)];simp[h]
  .have:jE (eX L) 0 R st=st':=Ze (l.take n) es 0 st st' hT λj hj=>by rw[zB7];exact V j (by rw[zBg]at hj;omega)
   have h2:=B.2.2;rw[this]at h2;exact hB a w h2
 have bf:∀L a w,(∀i,i<l.toArray.size->eX L i=true)->J L a w->QQ .normal a w:=λL a w V B=>by
  have cf:JB L a w:=B.elim (λh=>b1 L a w h λi hi=>V i qA) (λh=>h);obtain⟨_,k,h1,h2,U⟩:=cf
  have hk:n+k=ln l:=by
   by_cases h:n+k<ln l
   .have h4:=V (n+k) OZ;rw[h1]at h4;simp at h4
   .omega
  rw[hk,zEu]at U;exact U
 have bb:∀(L:Array Bool) i o,J0 L->l.toArray[i]? =some o->(∀e∈o.after,binds e=true->eX L e.on=true)->J0 (L.setIfInBounds i true):=λL i o h0 I A=>by
  obtain⟨hs,ar⟩:=h0;have E:i<l.toArray.size:=(zC4.1 I).1
  have O:∀j,eX (L.setIfInBounds i true) j=if j=i then true else eX L j:=λj=>UH L i j (by rw[hs];exact E)
  refine⟨by simpa using hs,λj C av a5 ed b4 hb=>?_⟩;rw[O]at a5⊢;by_cases u:j=i
  .subst u;rw[I]at av;cases av;split
   .rfl
   .exact A ed b4 hb
  .rw[Os u]at a5;split
   .rfl
   .exact ar j C av a5 ed b4 hb
 have ap:∀L a w i,JB L a w->i∈Region.ready .any l.toArray L->∀K:Act->World->Prop,(∀M w',J (L.setIfInBounds i true) M w'->K M w')->wpOpIn (DO F.ro) 0 P l.toArray QQ i K a w:=by
  intro L a w i B hi K hK;obtain⟨h0,k,h1,h2,U⟩:=B;obtain⟨o,I,hl,A⟩:=bJ h0.1 hi;have E:i<l.toArray.size:=(zC4.1 I).1;have a4:i<ln l:=by simpa using E
  have cl:n+k<=i:=by
   rw[h1]at hl;simpa using hl
  have cg:i=n+k:=by
   by_cases h:n+k<i
   .have h5:=HC hA a7 h0.2 (i+1) i o (by omega) I A (n+k) (b2 _ _ (by omega) a4 h);rw[h1]at h5;simp at h5
   .omega
  subst cg;rw[zE1 a4]at U
  have au:l[n+k]'a4=o:=by
   have:=(zC4.1 I).2;simpa using this
  rw[au]at U
  have O:∀j,eX (L.setIfInBounds (n+k) true) j=if j=n+k then true else eX L j:=λj=>UH L _ j (by rw[h0.1];exact E)
  have b7:∀M w',wpListIn (DO F.ro) 0 P l.toArray QQ (l.drop (n+k+1)) M w'->K M w':=λM w' h=>by
   refine hK M w' (.inr ⟨bb L _ o h0 I A,k+1,λj=>?_,by omega,h⟩);rw[O,h1];by_cases hj:j=n+k
   .rw[f5 hj];simp;omega
   .rw[Os hj];by_cases ch:j<n+k
    all_goals(simp[ch];omega)
  unfold wpOpIn;rw[I];dsimp only;unfold wpListIn at U;split
  .rename_i hw;rw[f5 hw]at U;exact Oper.wpIn_mono b7 U
  .rename_i hw;rw[Os hw]at U;exact⟨U.1,b7 _ _ U.2⟩
 have bx:∀L a w i,J L a w->i∈Region.ready .any l.toArray L->∀K:Act->World->Prop,(∀M w',J (L.setIfInBounds i true) M w'->K M w')->wpOpIn (DO F.ro) 0 P l.toArray QQ i K a w:=by
  intro L a w i B hi K hK
  rcases B with B|B
  case inr=>exact ap L a w i B hi K hK
  by_cases bl:i<n
  case neg=>
   refine ap L a w i (b1 L a w B λj hj=>?_) hi K hK;obtain⟨o,I,hl,A⟩:=bJ B.1.1 hi;have E:i<l.toArray.size:=(zC4.1 I).1;exact HC hA a7 B.1.2 (i+1) i o (by omega) I A j (b2 _ _ (by omega) (by simpa using E) (by omega))
  obtain⟨cd,b5,a2⟩:=B;obtain⟨hs,ar⟩:=cd;obtain⟨o,I,hl,A⟩:=bJ hs hi;have E:i<l.toArray.size:=(zC4.1 I).1;have au:(l.take n)[i]? =some o:=by rw[List.getElem?_take_of_lt bl];simpa using I
  obtain⟨e,he⟩:∃e,es[i]? =some e:=⟨es[i]'(by rw[br];exact bl),by simp⟩;have a8:=HC hA a7 ar (i+1) i o (by omega) I A
  have bu:∀j,j<l.toArray.size->jt T j i=true->eX L j=false:=λj hj bs=>by
   cases a5:eX L j with
   |false=>rfl
   |true=>
    have av:l.toArray[j]? =some l.toArray[j]:=by simp[hj]
    have:=HC hA a7 ar (j+1) j _ (by omega) av (ar j _ av a5) i bs;rw[hl]at this;cases this
  have ag:∀j C z,(l.take n)[j]? =some C->es[j]? =some z->j≠i->(j<i->cM l.toArray C o z.fp e.fp=true)->(i<j->cM l.toArray o C e.fp z.fp=true)->eX L j=decide (j<i):=λj C z h1 h2 ci U h4=>by
   rcases Nat.lt_or_gt_of_ne ci with h|h
   .rw[a8 j (b3 j i C o z e h h1 au h2 he (U h))];simp[h]
   .rw[bu j (by have:=a6 j C h1;simp;omega) (b3 i j o C e z h au h1 he h2 (h4 h))];simp;omega
  obtain⟨⟨s1,s2,s3,s4,s5,s6⟩,ac⟩:=hT.at i 0 o e au he;simp only[zB7]at s3 s4 s6 ac
  let Li:Nat->Bool:=λj=>decide (j<i)
  have cc:∀t,t∈uh l.toArray o->zK (jE (eX L) 0 R st).tm t=zK (jE Li 0 R st).tm t:=λt ht=>UJ R 0 st st Z λj p W hd=>by
   obtain⟨C,z,h1,h2,rfl⟩:=hR j p W;rw[zB7];by_cases u:j=i
   .subst u;simp only[Li];rw[hl];simp
   .refine ag j C z h1 h2 u (λ_=>?_) λ_=>?_
    .unfold cM;simp only[show C.dst=some t from hd,zDf.2 ht,zDe]
    .unfold cM;simp only[show C.dst=some t from hd,zDf.2 ht,zDe,zEe]
  have cb:∀k,k∈e.r\/k∈e.nw\/k∈xB e.d->zD (jE (eX L) 0 R st).h k=zD (jE Li 0 R st).h k:=λk hk=>YT R 0 st st Z λj p W hd=>by
   obtain⟨C,z,h1,h2,rfl⟩:=hR j p W;rw[zB7];by_cases u:j=i
   .subst u;simp only[Li];rw[hl];simp
   .have az:k∈z.fp.w:=by simp only[OW.fp,zBc];exact .inl hd
    have b6:k∈e.fp.w\/k∈e.fp.r:=by
     simp only[OW.fp,zBc]
     rcases hk with h|h|h
     .exact .inr h
     .exact .inl (.inr h)
     .exact .inl (.inl h)
    refine ag j C z h1 h2 u (λ_=>?_) λ_=>?_
    .have:z.fp.w.any (λk=>e.fp.w.contains k||e.fp.r.contains k)=true:=zCi.2 ⟨k,az,by simp only[zC3,zDf];exact b6⟩;unfold cM;simp only[this,zEe,zDe]
    .rcases b6 with h|h
     .have:e.fp.w.any (λk=>z.fp.w.contains k||z.fp.r.contains k)=true:=zCi.2 ⟨k,h,by simp only[zC3,zDf];exact .inl az⟩;unfold cM;simp only[this,zEe,zDe]
     .have:z.fp.w.any (λk=>e.fp.r.contains k)=true:=zCi.2 ⟨k,az,zDf.2 h⟩;unfold cM;simp only[this,zEe]
  have O:∀j,eX (L.setIfInBounds i true) j=if j=i then true else eX L j:=λj=>UH L i j (by rw[hs];exact E)
  have bz:∀t,zK (jE (eX (L.setIfInBounds i true)) 0 R st).tm t=if o.dst=some t then e.v else zK (jE (eX L) 0 R st).tm t:=λt=>by
   by_cases hd:o.dst=some t
   .rw[f5 hd]
    have h1:zK (jE (eX (L.setIfInBounds i true)) 0 R st).tm t=zK (jE (λj=>decide (j<i+1)) 0 R st).tm t:=UJ R 0 st st Z λj p W Y=>by
     obtain⟨C,z,h1,h2,rfl⟩:=hR j p W;rw[zB7,O];by_cases u:j=i
     .subst u;simp
     .have bd:C.dst=some t:=Y;rw[Os u,ag j C z h1 h2 u (λ_=>by unfold cM;simp[bd,hd]) (λ_=>by unfold cM;simp[bd,hd])];by_cases h:j<i
      all_goals(simp[h];omega)
    rw[h1,show(jE (λj=>decide (j<i+1)) 0 R st)=_ from ac,UI,f5 hd]
   .rw[Os hd]
    exact UJ R 0 st st Z λj p W Y=>by
     obtain⟨C,z,h1,h2,rfl⟩:=hR j p W;rw[zB7,O];by_cases u:j=i
     .subst u;rw[au]at h1;cases h1;exact absurd Y hd
     .rw[Os u]
  have ba:∀k,zD (jE (eX (L.setIfInBounds i true)) 0 R st).h k=over e.d (zD (jE (eX L) 0 R st).h) k:=λk=>by
   by_cases hd:k∈xB e.d
   .have h1:zD (jE (eX (L.setIfInBounds i true)) 0 R st).h k=zD (jE (λj=>decide (j<i+1)) 0 R st).h k:=YT R 0 st st Z λj p W Y=>by
     obtain⟨C,z,h1,h2,rfl⟩:=hR j p W;rw[zB7,O];by_cases u:j=i
     .subst u;simp
     .have az:k∈z.fp.w:=by simp only[OW.fp,zBc];exact .inl Y
      have b9:k∈e.fp.w:=by simp only[OW.fp,zBc];exact .inl hd
      have q1:z.fp.w.any (λk=>e.fp.w.contains k||e.fp.r.contains k)=true:=zCi.2 ⟨k,az,by simp only[zC3,zDf];exact .inl b9⟩;have q2:e.fp.w.any (λk=>z.fp.w.contains k||z.fp.r.contains k)=true:=zCi.2 ⟨k,b9,by simp only[zC3,zDf];exact .inl az⟩;rw[Os u,ag j C z h1 h2 u (λ_=>by unfold cM;simp only[q1,zEe,zDe]) (λ_=>by unfold cM;simp only[q2,zEe,zDe])];by_cases h:j<i
      all_goals(simp[h];omega)
    rw[h1,show(jE (λj=>decide (j<i+1)) 0 R st)=_ from ac,YS];exact re hd
   .rw[DU hd]
    exact YT R 0 st st Z λj p W Y=>by
     obtain⟨C,z,h1,h2,rfl⟩:=hR j p W;rw[zB7,O];by_cases u:j=i
     .subst u;rw[he]at h2;cases h2;exact absurd Y hd
     .rw[Os u]
  have bk:∀M w',WK F m (λt=>if o.dst=some t then e.v else zK (jE (eX L) 0 R st).tm t) (over e.d (zD (jE (eX L) 0 R st).h)) M w'->K M w':=λM w' h=>by
   refine hK M w' (.inl ⟨bb L i o ⟨hs,ar⟩ I A,λj hj=>?_,h.congr bz ba⟩);rw[O,Os (by omega)];exact b5 j hj
  have a3:e.on=true->o.wpIn (DO F.ro) 0 P a w K QQ:=λax=>
   (s4 ax).rel a2 (λt ht=>cc t (by unfold uh;simp[ht])) (λk hk=>cb k (.inl hk)) (λk hk=>by rw[cb k (.inr (.inl hk))];exact s3 k hk) s1 s2 bk
  unfold wpOpIn;rw[I];dsimp only
  cases hg:o.guard with
  |none=>
   rw[hg]at s6;rw[f5 (by simp[Region.wanted,hg])];exact a3 s6
  | some jb=>
   obtain⟨j,b⟩:=jb;rw[hg]at s6;obtain⟨t,c,g1,g2,g3⟩:=s6;have cj:t∈uh l.toArray o:=by unfold uh gOf;simp[hg,g1]
   have hv:a.eval (.tmp t)=c:=by
    obtain⟨⟨_,β,_,_,Ht,_⟩,_⟩:=a2;have:=Ht t;rw[cc t cj,g2]at this;exact this.s_inv
   have hw:=aE hg g1 hv
   cases ax:e.on with
   |true=>
    rw[f5 (by rw[hw,<-g3,ax])];exact a3 ax
   |false=>
    rw[Os (by rw[hw,<-g3,ax];simp)];obtain⟨v1,v2⟩:=s5 ax;refine⟨λ_ _=>trivial,bk _ _ ?_⟩;rw[v1,v2];exact WK.bot a2 o.dst s2
 have ca:∀(S:Nat) (L:Array Bool) (a:Act) (w:World),Sr (λi=>!eX L i) l.toArray.size<=S->J L a w->wpAnyIn (DO F.ro) 0 P .any l.toArray QQ S L a w:=by
  intro S
  induction S with
  | zero=>
   intro L a w hf B
   have b0:∀i,i<l.toArray.size->eX L i=true:=by
    intro i hi
    cases hl:eX L i with
    |true=>rfl
    |false=>
     exfalso;have h:=me (p:=λj=>!eX L j&&j != i) (q:=λj=>!eX L j) l.toArray.size i hi zV (λj hj=>by simp[hj]);simp[hl]at h;simp at hf;omega
   refine⟨?_,bf L a w b0 B⟩
   cases hr:Region.ready .any l.toArray L with
   |nil=>rfl
   |cons i ck=>
    obtain⟨o,I,hl,_⟩:=bJ (a1 _ _ _ B).1 (i:=i) (by rw[hr];simp);rw[b0 i (zC4.1 I).1]at hl;cases hl
  |succ S ih=>
   intro L a w hf B;refine⟨λhr=>bf L a w (λi hi=>wh hA (a1 _ _ _ B).1 hr (i+1) i (by omega) hi) B,λi hi=>?_⟩;refine bx L a w i B hi _ (λM w' ce=>ih _ _ _ ?_ ce);obtain⟨o,I,hl,_⟩:=bJ (a1 _ _ _ B).1 hi;have E:i<l.toArray.size:=(zC4.1 I).1;have h:=me (p:=λj=>!eX (L.setIfInBounds i true) j) (q:=λj=>!eX L j) l.toArray.size i E (by simp[UH L i i (by rw[(a1 _ _ _ B).1];exact E)]) (λj hj=>by simp[UH L i j (by rw[(a1 _ _ _ B).1];exact E),hj]);simp[hl]at h;simp at hf⊢;omega
 refine Code.wpIn_mono (λe M w' ⟨he,s,h1,h2⟩=>⟨s,by rw[he];exact h1,h2⟩) (wpIn_region_any hm (ca _ _ _ _ (Wz _ _) ?_))
 have hf:∀i,eX (Array.replicate l.toArray.size false) i=false:=by
  intro i;unfold eX;simp only[zBu,Array.getElem?_replicate]
  split<;>rfl
 refine .inl ⟨⟨by simp,λi o _ hl=>?_⟩,λi _=>hf i,?_⟩
 .rw[hf]at hl;cases hl
 .rw[UK R 0 st λj _=>hf _];obtain⟨⟨X,β,hX,HH,Ht,KK,B,hD⟩,nd,gs,hl⟩:=H;have G:=xU.drew HH (w.drawn+1);exact⟨⟨X,β,hX,G.hok,λt=>(Ht t).evo G.evo,KK.goes G nd (G.lives HH nd),λi hi=>F.go G (B i hi),hD.goes HH G⟩,nd,gs,hl⟩
theorem Xk {id:Nat} {u:List OW} {Q:Exit->St->Prop} (A:P.follows .mixedOrders=true) (hT:Tr P m l.toArray l st u st') (z:KW l (OV l) (u.map OW.fp)=true) (B:Q .normal st'):
  uD P F m (.region id l.toArray true) st Q:=by
 refine KX (ln l) A (by rw[zAt];exact hT) ?_ (by rw[zEu];exact λa w H=>⟨rfl,_,B,H⟩);unfold WQ;unfold KW at z;rw[z,zA3,zA2,zA5];refine⟨zD8 (zAw _),λj hj=>?_⟩;rw[show Nat.blt j (ln l)=true from zD8 (zBi.1 hj),zDe]
end
def Nb (h:(pb (ln TT)).map (λt=>Ck P t)=TT.map some):uZ P TT:=λt ti u=>by
 have hl:=(zBj.1 u).1;have:=zBb (·[t]?) h;simp only[zAz,u,zCn,zCk hl]at this;simpa using this
def L6 (P:Program) (F:Fr K0) (m:Nat) (ops:Array Oper):Bool->List Oper->St->List FP->(List FP->St->Prop)->Prop
 |false,l,st,_,Q=>HA P F m ops l st (Q [])
 |true,l,st,fs,Q=>∃u st',Tr P m ops l st u st'/\Q ((u.map OW.fp).reverse++fs) st'
structure yN (P:Program) {K0:List Nat} (F:Fr K0) (m:Nat) (ops:Array Oper) (dr:Bool) (l:List Oper) (st:St) (fs:List FP) (Q:List FP->St->Prop):Prop where
 run:L6 P F m ops dr l st fs Q
section
variable {P:Program} {K0:List Nat} {F:Fr K0} {m:Nat} {ops:Array Oper} {rest:List Oper} {Q:List FP->St->Prop} {tm:List (Nat×AV)} {h:List (Nat×xW)} {dr:Bool} {fs:List FP}
def kP {u:St->Prop} (z:u st):yN P F m ops false [] st fs (λ_ s=>u s):=⟨xt z⟩
def WR {u:St->Prop} (hc:KW l (OV l) fs.reverse=true) (z:u st):yN P F m ops true [] st fs (λfs s=>KW l (OV l) fs.reverse=true/\u s):=⟨⟨[],st,rfl,hc,z⟩⟩
def HE {o:Oper} {e:OW} (u:e.on=true) (A:o.guard=none) (E:wX P st o.op e.v e.d e.r e.nw) (C:∀k,k∈e.nw->zD st.h k=none) (hd:vX e.d=true) (B:∀t,o.dst=some t->t<m)
 (I:st'=st.app o.dst e.v e.d) (hk:yN P F m ops dr rest st' (e.fp::fs) Q):yN P F m ops dr (o::rest) st fs Q:=by
 subst I
 cases dr with
 |false=>exact⟨sk A E C hd B (λt=>UI _ _ _ _ _) (funext λk=>YS _ _ _ _ _) hk.run⟩
 |true=>
  obtain⟨G,z,h1,h2⟩:=hk.run;refine⟨⟨e::G,z,⟨⟨hd,B,C,(λ_=>E),(λh=>by rw[u]at h;cases h),by rw[A];exact u⟩,h1⟩,?_⟩⟩;simpa using h2
section
variable {op:Op} {ty:Nat} {pos:String} {after:Array Edge} {t:Nat} {v:AV} {r nw:List Nat}
def wM (z:wX P ⟨tm,h⟩ op v [] r []) (u:Nat.blt t m=true) (hk:yN P F m ops dr rest ⟨(t,v)::tm,h⟩ (⟨true,[],r⟩::fs) Q):yN P F m ops dr (⟨some t,op,ty,pos,after,none⟩::rest) ⟨tm,h⟩ fs Q:=
 HE (e:=⟨true,v,[],r,[]⟩) Z Z z zV Z (λj hj=>by cases hj;exact zA8 u) Z hk
def uU {k:Nat} {e:xW} (A:wX P ⟨tm,h⟩ op v [(k,e)] r nw) (u:Nat.blt t m=true) (z:nw.all (λj=>(zD h j).isNone)=true) (hd:vX [(k,e)]=true) (hk:yN P F m ops dr rest ⟨(t,v)::tm,(k,e)::h⟩ (⟨true,k::nw,r⟩::fs) Q):
  yN P F m ops dr (⟨some t,op,ty,pos,after,none⟩::rest) ⟨tm,h⟩ fs Q:=
 HE (e:=⟨true,v,[(k,e)],r,nw⟩) Z Z A (λj hj=>by have:=zA5.1 z j hj;simpa using this) hd (λj hj=>by cases hj;exact zA8 u) Z hk
def L9 {k:Nat} {e:xW} (z:wX P ⟨tm,h⟩ op v [(k,e)] r nw) (u:nw.all (λj=>(zD h j).isNone)=true) (hd:vX [(k,e)]=true) (hk:yN P F m ops dr rest ⟨tm,(k,e)::h⟩ (⟨true,k::nw,r⟩::fs) Q):yN P F m ops dr (⟨none,op,ty,pos,after,none⟩::rest) ⟨tm,h⟩ fs Q:=
 HE (e:=⟨true,v,[(k,e)],r,nw⟩) Z Z z (λj hj=>by have:=zA5.1 u j hj;simpa using this) hd (λj hj=>by cases hj) Z hk
def aF (A:wX P ⟨tm,h⟩ op v d r nw) (u:Nat.blt t m=true) (z:nw.all (λj=>(zD h j).isNone)=true) (hd:vX d=true) (hk:yN P F m ops dr rest ⟨(t,v)::tm,d++h⟩ (⟨true,xB d++nw,r⟩::fs) Q):
  yN P F m ops dr (⟨some t,op,ty,pos,after,none⟩::rest) ⟨tm,h⟩ fs Q:=
 HE (e:=⟨true,v,d,r,nw⟩) Z Z A (λj hj=>by have:=zA5.1 z j hj;simpa using this) hd (λj hj=>by cases hj;exact zA8 u) Z hk
end
theorem KV.on {P:Program} {m:Nat} {ops:Array Oper} {d:Option Nat} {j:Nat} {e:OW} (z:XW ops j=some t) (hv:zK st.tm t= .s (.bool b)) (u:KV P m ops ⟨d,op,ty,pos,after,none⟩ st e):
 KV P m ops ⟨d,op,ty,pos,after,some (j,b)⟩ st e:=by grind [XW,zK,KV,gw]
def K9 {d:Option Nat} {j:Nat} (A:XW ops j=some t) (hv:zK st.tm t= .s (.bool b)) (hk:yN P F m ops dr (⟨d,op,ty,pos,after,none⟩::rest) st fs Q):
  yN P F m ops dr (⟨d,op,ty,pos,after,some (j,b)⟩::rest) st fs Q:=by
 cases dr with
 |false=>exact⟨Xz A hv hk.run⟩
 |true=>
  obtain⟨u,z,h1,h2⟩:=hk.run
  cases u with
  |nil=>exact h1.elim
  |cons e u=>exact⟨⟨e::u,z,⟨h1.1.on A hv,h1.2⟩,h2⟩⟩
def K6 {d:Nat} {j:Nat} (A:XW ops j=some t) (hv:zK tm t= .s c) (hc:gw c b=false) (z:Nat.blt d m=true) (hk:yN P F m ops dr rest ⟨(d,.s undef)::tm,h⟩ (⟨false,[],[]⟩::fs) Q):
  yN P F m ops dr (⟨some d,op,ty,pos,after,some (j,b)⟩::rest) ⟨tm,h⟩ fs Q:=by
 cases dr with
 |false=>exact⟨vt A hv hc z hk.run⟩
 |true=>
  obtain⟨B,u,h1,h2⟩:=hk.run;refine⟨⟨⟨false,.s undef,[],[],[]⟩::B,u,⟨⟨rfl,(λj hj=>by cases hj;exact zA8 z),by simp,(λh=>by cases h),(λ_=>⟨rfl,rfl⟩),t,c,A,hv,hc.symm⟩,h1⟩,?_⟩⟩;rw[zCb,List.reverse_cons,zBh];exact h2
def dt {t:Nat} {c:Bool} (hv:zK st.tm t= .s (.bool c)) (h1:c=true->yN P F m ops false l ⟨(t,.s (.bool true))::st.tm,st.h⟩ fs Q) (h2:c=false->yN P F m ops false l ⟨(t,.s (.bool false))::st.tm,st.h⟩ fs Q):yN P F m ops false l st fs Q:=⟨yh hv (λh=>(h1 h).run) (λh=>(h2 h).run)⟩
def UL {d:Option Nat} {j t:Nat} {c:Bool} (u:XW ops j=some t) (hv:zK tm t= .s (.bool c)) (h1:c=true->yN P F m ops false (⟨d,op,ty,pos,after,some (j,b)⟩::rest) ⟨(t,.s (.bool true))::tm,h⟩ fs Q) (h2:c=false->yN P F m ops false (⟨d,op,ty,pos,after,some (j,b)⟩::rest) ⟨(t,.s (.bool false))::tm,h⟩ fs Q):
  yN P F m ops false (⟨d,op,ty,pos,after,some (j,b)⟩::rest) ⟨tm,h⟩ fs Q:=by
 have:=u;exact dt (st:=⟨tm,h⟩) hv h1 h2
section
variable {ty t:Nat} {pos:String} {after:Array Edge} {st:St} {g:Option (Nat×Bool)} {d:Option Nat}
def xP {c:Operand} {u:Array Operand} {z:Array Nat} (hk:yN P F m ops dr (⟨some t,(.call ⟨.value c,u,z⟩),ty,pos,after,none⟩::rest) st fs Q):yN P F m ops dr (⟨some t,(.call ⟨.value c,u,z⟩),ty,pos,after,none⟩::rest) st fs Q:=hk
def wV {op:BinOp} {u:Nat} (hk:yN P F m ops dr (⟨some t,(.binOp op tx x y u),ty,pos,after,none⟩::rest) st fs Q):yN P F m ops dr (⟨some t,(.binOp op tx x y u),ty,pos,after,none⟩::rest) st fs Q:=hk
def Vz (hk:yN P F m ops dr (⟨some t,(.indexAddr tx x y),ty,pos,after,none⟩::rest) st fs Q):yN P F m ops dr (⟨some t,(.indexAddr tx x y),ty,pos,after,none⟩::rest) st fs Q:=hk
def ct (hk:yN P F m ops dr (⟨some t,(.load tx x),ty,pos,after,none⟩::rest) st fs Q):yN P F m ops dr (⟨some t,(.load tx x),ty,pos,after,none⟩::rest) st fs Q:=hk
def Uz (hk:yN P F m ops dr (⟨some t,(.fieldAddr tx x n),ty,pos,after,none⟩::rest) st fs Q):yN P F m ops dr (⟨some t,(.fieldAddr tx x n),ty,pos,after,none⟩::rest) st fs Q:=hk
def dX (hk:yN P F m ops dr (⟨none,(.store tx x y),ty,pos,after,none⟩::rest) st fs Q):yN P F m ops dr (⟨none,(.store tx x y),ty,pos,after,none⟩::rest) st fs Q:=hk
def OX {j:Nat} (hk:yN P F m ops dr (⟨d,op,ty,pos,after,some (j,b)⟩::rest) st fs Q):yN P F m ops dr (⟨d,op,ty,pos,after,some (j,b)⟩::rest) st fs Q:=hk
def zG (hk:yN P F m ops dr l st fs Q):yN P F m ops dr l st fs Q:=hk
end
def xR {Q:Exit->St->Prop} {id:Nat} (hk:yN P F m l.toArray false l st [] (λ_ s=>Q .normal s)):uD P F m (.region id l.toArray false) st Q:=Pb hk.run
theorem vZ {Q:Exit->St->Prop} {id:Nat} (B:P.follows .mixedOrders=true) (hk:yN P F m l.toArray true l st [] (λfs s=>KW l (OV l) fs.reverse=true/\Q .normal s)):uD P F m (.region id l.toArray true) st Q:=by
 obtain⟨z,u,h1,h2,A⟩:=hk.run
 grind [KW,OV,Xk]
end
section
variable {P:Program} {TT:List TI} {K0:List Nat} {F:Fr K0} {m:Nat} {ops:Array Oper} {rest:List Oper} {Q:List FP->St->Prop} {tm:List (Nat×AV)} {h:List (Nat×xW)} {dr:Bool} {fs:List FP}
variable {ty:Nat} {pos:String} {after:Array Edge} {t:Nat}
def Mb {h:List (Nat×xW)} {t:Nat} (u:(zD h t).isNone=true): [t].all (λj=>(zD h j).isNone)=true:=by simpa using u
def HF (u:uZ P TT) (hx:yX (zK tm) x= .fp xs i 0) (hT:TT[T]? =some ti) (z:ti.d.agg=true) (B:xs[i]? =some (.agg cs)) (A:Nat.beq ti.size (ln cs)=true):
  wX P ⟨tm,h⟩ (.load T x) (.agg cs) [] [] []:=by
 have e:=zBo A;refine ZI u hx B hT ?_;unfold Da;rw[z,e];simp[AV.cells,zD8 (zAw (ln cs))]
def HG (u:uZ P TT) {y:AV} (hx:yX (zK tm) x= .fp xs i off) (hT:TT[T]? =some ti) (z:ti.d.agg=false) (A:xs[i]? =some y) (hv:y.cells[off]? =some v):
  wX P ⟨tm,h⟩ (.load T x) v [] [] []:=by
 refine ZI u hx A hT ?_;unfold Da;rw[z];exact hv
def LR (u:uZ P TT) (hx:yX (zK tm) x= .ptr k i 0) (hk:zD h k=some (.arr sz xs sl)) (hT:TT[T]? =some ti) (z:ti.d.agg=true) (B:xs[i]? =some (.agg cs)) (A:Nat.beq ti.size (ln cs)=true):
  wX P ⟨tm,h⟩ (.load T x) (.agg cs) [] [k] []:=by
 have e:=zBo A;refine dJ u hx hk B hT ?_;unfold Da;rw[z,e];simp[AV.cells,zD8 (zAw (ln cs))]
def LS (u:uZ P TT) {y:AV} (hx:yX (zK tm) x= .ptr k i off) (hk:zD h k=some (.arr sz xs sl)) (hT:TT[T]? =some ti) (z:ti.d.agg=false) (A:xs[i]? =some y) (hv:y.cells[off]? =some v):
  wX P ⟨tm,h⟩ (.load T x) v [] [k] []:=by
 refine dJ u hx hk A hT ?_;unfold Da;rw[z];exact hv
def gP (E:uZ P TT) (R:yX (zK tm) s= .s (.slice none 0 0)) (hx:yX (zK tm) x=xv) (hT:TT[T]? =some ti) (hd:ti.d= .slice e) (G:TT[e]? =some te)
 (B:CR (zD h) xv=some ys) (A:∀y,ys[0]? =some y->ln y.cells=te.size) (O:Nat.ble 1 te.size=true) (hb:Nat.ble te.bytes 65536=true) (S:Nat.beq (ln te.zero) te.size=true) (M:ln ys<=1073741824) (I:Nat.blt t m=true) (u:(zD h t).isNone=true)
 (z:te.size=sz) (hk:yN P F m ops dr rest ⟨(t,.ref t 0 (ln ys))::tm,(t,.arr sz ys false)::h⟩ (⟨true,[t,t],PK xv⟩::fs) Q) (C:te.zero.all (·.oneCell')=true:=by rfl):yN P F m ops dr (⟨some t,.call ⟨.builtin .append, #[s,x], #[T,T]⟩,ty,pos,after,none⟩::rest) ⟨tm,h⟩ fs Q:=by
 subst z;exact uU (nw:=[t]) (ZL E t R hx hT hd G B A O hb S C M) I (Mb u) Z hk
def Ye (S:uZ P TT) {n:Nat} {kx ky:IntKind} {nx R:Int} {z:AV} (hx:yX (zK tm) x= .s (.int kx nx)) (Y:yX (zK tm) y= .s (.int ky R)) (hT:TT[T]? =some ti) (hd:ti.d= .slice e) (U:TT[e]? =some te)
 (hb:Nat.ble te.bytes 65536=true) (W:Nat.ble 1 te.size=true) (O:Nat.beq (ln te.zero) te.size=true) (I:te.zero.all (·.oneCell')=true) (M:Nat.beq (uH te).cells.length te.size=true) (A:(uH te).cells=te.zero.map .s) (hz:uH te=z)
 (C:nx=(n:Int)) (E:nx<=R) (u:R<=1073741824) (V:Nat.blt t m=true) (B:(zD h t).isNone=true)
 (G:te.size=sz) (hk:yN P F m ops dr rest ⟨(t,.ref t 0 n)::tm,(t,.arr sz (List.replicate n z) false)::h⟩ (⟨true,[t,t],[]⟩::fs) Q):yN P F m ops dr (⟨some t,.makeSlice T x y,ty,pos,after,none⟩::rest) ⟨tm,h⟩ fs Q:=by
 subst G hz;exact uU (nw:=[t]) (WC S t hx Y hT hd U C E u hb W O I M A) V (Mb B) Z hk
def jF (E:uZ P TT) {k len:Nat} {U:Bool} (R:yX (zK tm) s= .ref k 0 len) (hk:zD h k=some (.arr sz xs ⟨U,false⟩)) (hx:yX (zK tm) x=xv) (hT:TT[T]? =some ti) (hd:ti.d= .slice e) (G:TT[e]? =some te)
 (B:CR (zD h) xv=some ys) (z:Nat.beq sz te.size=true) (hb:Nat.ble te.bytes 65536=true) (S:Nat.beq (ln te.zero) te.size=true) (u:len=ln xs) (A:∀y,ys[0]? =some y->ln y.cells=sz) (M:ln xs+ln ys<=1073741824) (I:Nat.blt t m=true)
 (O:yN P F m ops dr rest ⟨(t,.ref k 0 (xs++ys).length)::tm,(k,.arr sz (xs++ys) true)::h⟩ (⟨true,[k],k::PK xv⟩::fs) Q) (C:te.zero.all (·.oneCell')=true:=by rfl):yN P F m ops dr (⟨some t,.call ⟨.builtin .append, #[s,x], #[T,T]⟩,ty,pos,after,none⟩::rest) ⟨tm,h⟩ fs Q:=by
 subst u;exact uU (nw:=[]) (NE E R hk hx hT hd G B A z hb S C M) I Z Z O
def wN (E:uZ P TT) {k len:Nat} (R:yX (zK tm) s= .ref k 0 len) (hk:zD h k=some (.arr sz xs sl)) (hx:yX (zK tm) x=xv) (hT:TT[T]? =some ti) (hd:ti.d= .slice e) (G:TT[e]? =some te)
 (B:UR true (zD h) xv=some ys) (z:Nat.beq sz te.size=true) (hb:Nat.ble te.bytes 65536=true) (S:Nat.beq (ln te.zero) te.size=true) (u:len=ln xs) (A:∀y,ys[0]? =some y->ln y.cells=sz) (M:ln xs+ln ys<=1073741824) (I:Nat.blt t m=true)
 (O:yN P F m ops dr rest ⟨(t,.ref k 0 (xs++ys).length)::tm,(k,.arr sz (xs++ys) ⟨true,true⟩)::h⟩ (⟨true,[k],k::PK xv⟩::fs) Q) (C:te.zero.all (·.oneCell')=true:=by rfl):yN P F m ops dr (⟨some t,.call ⟨.builtin .append, #[s,x], #[T,T]⟩,ty,pos,after,none⟩::rest) ⟨tm,h⟩ fs Q:=by
 subst u;exact uU (nw:=[]) (QN E R hk hx hT hd G B A z hb S C M) I Z Z O
section
variable {op:BinOp} {tx t2:Nat} {x y:Operand} {k:IntKind} {a b:Int} (hx:yX (zK tm) x= .s (.int k a)) (hy:yX (zK tm) y= .s (.int k b))
include hx hy
def Wk (hh:a<b):wX P ⟨tm,h⟩ (.binOp .lss tx x y t2) (.s (.bool true)) [] [] []:=by have:=HO (P:=P) (st:=⟨tm,h⟩) (tx:=tx) (ty:=t2) hx hy;rwa [zAu hh]at this
def Vk (hh:¬a<b):wX P ⟨tm,h⟩ (.binOp .lss tx x y t2) (.s (.bool false)) [] [] []:=by have:=HO (P:=P) (st:=⟨tm,h⟩) (tx:=tx) (ty:=t2) hx hy;rwa [zAs hh]at this
def Uk (hh:a<=b):wX P ⟨tm,h⟩ (.binOp .leq tx x y t2) (.s (.bool true)) [] [] []:=by have:=HP (P:=P) (st:=⟨tm,h⟩) (tx:=tx) (ty:=t2) hx hy;rwa [zAu hh]at this
def Sk (hh:¬a<=b):wX P ⟨tm,h⟩ (.binOp .leq tx x y t2) (.s (.bool false)) [] [] []:=by have:=HP (P:=P) (st:=⟨tm,h⟩) (tx:=tx) (ty:=t2) hx hy;rwa [zAs hh]at this
def Rk (hh:b<a):wX P ⟨tm,h⟩ (.binOp .gtr tx x y t2) (.s (.bool true)) [] [] []:=by have:=HQ (P:=P) (st:=⟨tm,h⟩) (tx:=tx) (ty:=t2) hx hy;rwa [zAu hh]at this
def Qk (hh:¬b<a):wX P ⟨tm,h⟩ (.binOp .gtr tx x y t2) (.s (.bool false)) [] [] []:=by have:=HQ (P:=P) (st:=⟨tm,h⟩) (tx:=tx) (ty:=t2) hx hy;rwa [zAs hh]at this
def Pk (hh:b<=a):wX P ⟨tm,h⟩ (.binOp .geq tx x y t2) (.s (.bool true)) [] [] []:=by have:=HR (P:=P) (st:=⟨tm,h⟩) (tx:=tx) (ty:=t2) hx hy;rwa [zAu hh]at this
def Ok (hh:¬b<=a):wX P ⟨tm,h⟩ (.binOp .geq tx x y t2) (.s (.bool false)) [] [] []:=by have:=HR (P:=P) (st:=⟨tm,h⟩) (tx:=tx) (ty:=t2) hx hy;rwa [zAs hh]at this
def Nk (hh:a=b):wX P ⟨tm,h⟩ (.binOp .eql tx x y t2) (.s (.bool true)) [] [] []:=by have:=HM (P:=P) (st:=⟨tm,h⟩) (tx:=tx) (ty:=t2) hx hy;rwa [show(a==b)=true by simpa using hh]at this
def Mk (hh:a≠b):wX P ⟨tm,h⟩ (.binOp .eql tx x y t2) (.s (.bool false)) [] [] []:=by have:=HM (P:=P) (st:=⟨tm,h⟩) (tx:=tx) (ty:=t2) hx hy;rwa [show(a==b)=false by simpa using hh]at this
def Lk (hh:a≠b):wX P ⟨tm,h⟩ (.binOp .neq tx x y t2) (.s (.bool true)) [] [] []:=by have:=HN (P:=P) (st:=⟨tm,h⟩) (tx:=tx) (ty:=t2) hx hy;rwa [show(a != b)=true by simpa using hh]at this
def Kk (hh:a=b):wX P ⟨tm,h⟩ (.binOp .neq tx x y t2) (.s (.bool false)) [] [] []:=by have:=HN (P:=P) (st:=⟨tm,h⟩) (tx:=tx) (ty:=t2) hx hy;rwa [show(a != b)=false by simpa using hh]at this
end
end
def wj {β:Type} (v:AV) (K:AV->Option β):Option β:=match v with
 | .s v=>K (.s v)
 | .ptr k i o=>K (.ptr k i o)
 | .agg cs=>K (.agg cs)
 | .sl b xs=>K (.sl b xs)
 | .slc b xs=>K (.slc b xs)
 | .ref k o n=>K (.ref k o n)
 | .fp xs i o=>K (.fp xs i o)
 | .fn f cs=>K (.fn f cs)
 | .tup vs=>K (.tup vs)
 | .bot=>K .bot
 | .gh n=>K (.gh n)
 | .fm o p=>K (.fm o p)
theorem ZH {β:Type} (v:AV) (K:AV->Option β):wj v K=K v:=by cases v<;>rfl
def QJ {β:Type}:List AV->(List AV->Option β)->Option β
 | [],K=>K []
 |x::r,K=>wj x λx=>QJ r λr=>K (x::r)
theorem gQ {β:Type}:∀(l:List AV) (K:List AV->Option β),QJ l K=K l
 | [],_=>rfl
 |x::r,K=>by rw[QJ,ZH,gQ r]
abbrev Res:=AV×List (Nat×xW)×List Nat×List Nat
def Tz (ti:TI) (u:List AV) (off:Nat) (r:List Nat):Option Res:=
 bif ti.d.agg then(bif Nat.ble (off+ti.size) (ln u) then QJ ((u.drop off).take ti.size) λl=>some (.agg l,[],r,[])else none)
 else match u[off]? with
  |some v=>wj v λv=>some (v,[],r,[])
  |none=>none
def Xe:BinOp->Bool
 | .eql| .neq| .lss| .leq| .gtr| .geq=>true
 |_=>false
def cN:Nat->List Nat->Bool
 |_,[]=>true
 |n,x::r=>Nat.beq x n&&cN (n+1) r
def exec (TT:List TI) (tm:List (Nat×AV)) (h:List (Nat×xW)) (t:Nat):Op->Option Res
 | .move x=>wj (yX (zK tm) x) λv=>some (v,[],[],[])
 | .assign x=>wj (yX (zK tm) x) λv=>some (v,[],[],[])
 | .pick c x y=>match yX (zK tm) c with
  | .s (.bool b)=>bif b then wj (yX (zK tm) x) λv=>some (v,[],[],[])else wj (yX (zK tm) y) λv=>some (v,[],[],[])
  |_=>none
 | .extract x i=>match yX (zK tm) x with
  | .tup vs=>match vs[i]? with
   |some v=>wj v λv=>some (v,[],[],[])
   |none=>none
  |_=>none
 | .box _ x=>match yX (zK tm) x with
  | .agg cs=>some (.ptr t 0 0,[(t,.box cs)],[],[t])
  |v=>bif v.one then wj v λv=>some (.ptr t 0 0,[(t,.box [v])],[],[t])else none
 | .alloc T=>match TT[T]? with
  |some ti=>bif ti.zero.all (·.oneCell')then QJ (ti.zero.map AV.s) λl=>some (.ptr t 0 0,[(t,.box l)],[],[t])else none
  |none=>none
 | .load T x=>match yX (zK tm) x,TT[T]? with
  | .ptr k 0 off,some ti=>match zD h k with
   |some (.box cs)=>Tz ti cs off [k]
   |some (.arr _ xs _)=>match xs[0]? with
    |some y=>Tz ti y.cells off [k]
    |none=>none
   |_=>none
  | .ptr k (i+1) off,some ti=>match zD h k with
   |some (.arr _ xs _)=>match xs[i+1]? with
    |some y=>Tz ti y.cells off [k]
    |none=>none
   |_=>none
  | .fp xs i off,some ti=>match xs[i]? with
   |some y=>Tz ti y.cells off []
   |none=>none
  |_,_=>none
 | .store T p x=>match yX (zK tm) p,TT[T]? with
  | .ptr k 0 off,some ti=>match zD h k with
   |some (.box cs)=>wj (yX (zK tm) x) λv=>bif v.ok&&(Nat.beq (ln v.cells) ti.size&&Nat.ble (off+ti.size) (ln cs))then QJ (UM cs off v.cells) λl=>some (.bot,[(k,.box l)],[k],[])else none
   |_=>none
  |_,_=>none
 | .fieldAddr T x f=>match yX (zK tm) x,TT[T]? with
  | .ptr k 0 off,some ti=>match zD h k,ti.d with
   | some (.box _),.str fs=>match fs[f]? with
    |some (o,ft)=>match TT[ft]? with
     |some z=>bif Nat.ble 1 z.size then some (.ptr k 0 (off+o),[],[k],[])else none
     |none=>none
    |none=>none
   |_,_=>none
  |_,_=>none
 | .field T x f=>match yX (zK tm) x,TT[T]? with
  | .agg cs,some ti=>match ti.d with
   | .str fs=>match fs[f]? with
    |some (o,ft)=>match TT[ft]? with
     |some z=>Tz z cs o []
     |none=>none
    |none=>none
   |_=>none
  |_,_=>none
 | .nilCheck x=>match yX (zK tm) x with
  | .ptr k 0 off=>match zD h k with
   |some (.box _)=>some (.ptr k 0 off,[],[k],[])
   |_=>none
  |_=>none
 | .unOp .not _ x=>match yX (zK tm) x with
  | .s (.bool b)=>some (.s (.bool !b),[],[],[])
  |_=>none
 | .makeFunc (.func f) ⟨[]⟩ cap=>QJ (cap.toList.map (yX (zK tm))) λl=>some (.fn f l,[],[],[])
 | .build T u=>match TT[T]? with
  | some ti=>match ti.d with
   | .str fs=>bif ti.zero.all (·.oneCell')then(match Hb TT fs with
    |some A=>match NF (A[·]?) (ti.zero.map .s) (bL ⟨tm,h⟩ u)with
     |some cs=>QJ cs λl=>some (.agg l,[],[],[])
     |none=>none
    |none=>none)else none
   | .arr _ e=>bif ti.zero.all (·.oneCell')then(match TT[e]? with
    |some te=>match NF (λi=>some (i*te.size,te.size)) (ti.zero.map .s) (bL ⟨tm,h⟩ u)with
     |some cs=>QJ cs λl=>some (.agg l,[],[],[])
     |none=>none
    |none=>none)else none
   |_=>none
  |none=>none
 | .buildSlice T len u=>match TT[T]? with
  | some ti=>match ti.d with
   | .slice e=>match TT[e]? with
    | some te=>bif cN 0 (u.toList.map (·.1))&&(Nat.beq (ln u.toList) len&&(Nat.ble 1 te.size&&(Nat.ble (len*te.size) 65536&&Nat.beq (ln te.zero) te.size)))then
      QJ (u.toList.map λp=>yX (zK tm) p.2) λxs=>bif xs.all (λx=>Nat.beq (ln x.cells) te.size&&(x.ok&&x.nokey))then some (.ref t 0 len,[(t,.arr te.size xs false)],[],[t])else none else none
    |none=>none
   |_=>none
  |none=>none
 | .call ⟨.builtin .len,⟨[x]⟩,⟨[T]⟩⟩=>match TT[T]? with
  | some ti=>match ti.d with
   | .slice _=>match yX (zK tm) x with
    | .sl _ xs=>some (.s (.int .i64 (ln xs)),[],[],[])
    | .ref k _ len=>match zD h k with
     |some (.arr _ _ _)=>some (.s (.int .i64 len),[],[k],[])
     |_=>none
    | .s (.slice _ n _)=>some (.s (.int .i64 n),[],[],[])
    |_=>none
   |_=>none
  |none=>none
 | .call ⟨.builtin .max,⟨[x,y]⟩,⟨[_,_]⟩⟩=>match yX (zK tm) x,yX (zK tm) y with
  | .s (.int .i64 m),.s (.int .i64 n)=>some (.s (.int .i64 (max m n)),[],[],[])
  |_,_=>none
 | .call ⟨.builtin .min,⟨[x,y]⟩,⟨[_,_]⟩⟩=>match yX (zK tm) x,yX (zK tm) y with
  | .s (.int .i64 m),.s (.int .i64 n)=>some (.s (.int .i64 (min m n)),[],[],[])
  |_,_=>none
 |_=>none
section
variable {P:Program} {TT:List TI} (hP:uZ P TT) {tm:List (Nat×AV)} {h:List (Nat×xW)} {t:Nat}
theorem OY {u:List AV} {v:AV} {z:List Nat} (A:Tz ti u off r=some (v,d,z,nw)):Da ti.d.agg ti.size u off=some v/\d=[]/\z=r/\nw=[]:=by grind [Tz,Da,gQ,Nat.ble,Option.some.injEq,Prod.mk.injEq,ZH]
theorem WU:∀(l:List Nat) (n:Nat),cN n l=true->∀(j:Nat) x,l[j]? =some x->x=n+j
 | [],_,_,_,_,h=>by simp at h
 |y::r,n,u,0,x,h=>by simp at h;subst h;simp[cN]at u;omega
 |y::r,n,u,j+1,x,h=>by
  simp only[cN,zA2]at u;have:=WU r (n+1) u.2 j x OZ;omega
include hP in
theorem WX:∀{op:Op} {v:AV} {d:List (Nat×xW)} {r nw:List Nat},exec TT tm h t op=some (v,d,r,nw)->wX P ⟨tm,h⟩ op v d r nw:=by
 intro op v d r nw z;unfold exec at z;split at z
 .grind [exec,ZH,Option.some.injEq,Prod.mk.injEq,ol]
 .grind [exec,ZH,Option.some.injEq,Prod.mk.injEq,Lb]
 .grind [exec,ZH,Option.some.injEq,Prod.mk.injEq,ml]
 .grind [exec,ZH,Option.some.injEq,Prod.mk.injEq,CJ]
 .rename_i T x;generalize hx:yX (zK tm) x=u at z;by_cases V:u.isAgg=true
  .cases u<;>simp[AV.isAgg]at V
   simp only[zCd,zC6]at z;obtain⟨rfl,rfl,rfl,rfl⟩:=z;exact dI (v:= .agg _) t hx Z
  .have B:(bif u.one then some (AV.ptr t 0 0,[(t,xW.box [u])],([]:List Nat),[t])else none)=some (v,d,r,nw):=by
    cases u<;>first|exact z|(simp[AV.isAgg]at V)
   cases O:u.one with
   |false=>rw[O]at B;cases B
   |true=>
    rw[O]at B;simp only[zB6,zCd,zC6]at B;obtain⟨rfl,rfl,rfl,rfl⟩:=B
    have ok:u.ok=true:=by cases u<;>first|rfl|exact O
    have e:u.cells=[u]:=by cases u<;>first|rfl|(simp[AV.one]at O)
    grind [exec,dI]
 .split at z
  .rename_i ti hT
   cases A:ti.zero.all (·.oneCell')with
   |false=>simp[A]at z
   |true=>
    simp only[A,zB6,gQ,zCd,zC6]at z;obtain⟨rfl,rfl,rfl,rfl⟩:=z;exact fJ hP t hT A
  .cases z
 .split at z
  .rename_i k off ti hx hT;split at z
   .rename_i cs hk;obtain⟨q1,rfl,rfl,rfl⟩:=OY z;exact HU hP hx hk hT q1
   .rename_i xs _ hk;split at z
    .rename_i y C;obtain⟨q1,rfl,rfl,rfl⟩:=OY z;exact dJ hP hx hk C hT q1
    .cases z
   .cases z
  .rename_i k i off ti hx hT;split at z
   .rename_i xs _ hk;split at z
    .rename_i y C;obtain⟨q1,rfl,rfl,rfl⟩:=OY z;exact dJ hP hx hk C hT q1
    .cases z
   .cases z
  .rename_i xs i off ti hx hT;split at z
   .rename_i y C;obtain⟨q1,rfl,rfl,rfl⟩:=OY z;exact ZI hP hx C hT q1
   .cases z
  .cases z
 .rename_i T p x;split at z
  .rename_i k off ti hp hT;split at z
   .rename_i cs hk;rw[ZH]at z
    cases hc:((yX (zK tm) x).ok&&(Nat.beq (yX (zK tm) x).cells.length ti.size&&Nat.ble (off+ti.size) (ln cs)))with
    |false=>rw[hc]at z;cases z
    |true=>
     rw[hc]at z;simp only[zB6,gQ,zCd,zC6]at z;obtain⟨rfl,rfl,rfl,rfl⟩:=z;simp only[zA2]at hc;exact LT hP hp Z hk hT hc.1 hc.2.1 hc.2.2
   .cases z
  .cases z
 .split at z
  .rename_i k off ti hx hT;split at z
   .rename_i cs fs hk hd;split at z
    .rename_i o ft E;split at z
     .rename_i W G
      cases A:Nat.ble 1 W.size with
      |false=>simp[A]at z
      |true=>
       simp only[A,zB6,zCd,zC6]at z;obtain⟨rfl,rfl,rfl,rfl⟩:=z;exact UN hP hx hk hT hd E G A
     .cases z
    .cases z
   .cases z
  .cases z
 .split at z
  .rename_i cs ti hx hT;split at z
   .rename_i fs hd;split at z
    .rename_i o ft E;split at z
     .rename_i W G;obtain⟨q1,rfl,rfl,rfl⟩:=OY z;exact ah hP hx hT hd E G q1
     .cases z
    .cases z
   .cases z
  .cases z
 .split at z
  .rename_i hx;split at z
   .rename_i hk;simp only[zCd,zC6]at z;obtain⟨rfl,rfl,rfl,rfl⟩:=z;exact SP hx hk
   .cases z
  .cases z
 .split at z
  .rename_i hx;simp only[zCd,zC6]at z;obtain⟨rfl,rfl,rfl,rfl⟩:=z;exact Wt hx
  .cases z
 .simp only[gQ,zCd,zC6]at z;obtain⟨rfl,rfl,rfl,rfl⟩:=z;exact HS
 .split at z
  .rename_i ti hT;split at z
   .rename_i fs hd
    cases A:ti.zero.all (·.oneCell')with
    |false=>simp[A]at z
    | true=>
     simp only[A,zB6]at z;split at z
     .rename_i pl S;split at z
      .rename_i cs E;simp only[gQ,zCd,zC6]at z;obtain⟨rfl,rfl,rfl,rfl⟩:=z;exact oh hP hT hd A S E
      .cases z
     .cases z
   .rename_i e hd
    cases A:ti.zero.all (·.oneCell')with
    |false=>simp[A]at z
    | true=>
     simp only[A,zB6]at z;split at z
     .rename_i te I;split at z
      .rename_i cs E;simp only[gQ,zCd,zC6]at z;obtain⟨rfl,rfl,rfl,rfl⟩:=z;exact LU hP hT hd I A E
      .cases z
     .cases z
   .cases z
  .cases z
 .split at z
  .rename_i ti hT;split at z
   .rename_i e hd;split at z
    .rename_i T len R _ _ _ te I;rw[gQ]at z
     cases hc:(cN 0 (R.toList.map (·.1))&&(Nat.beq (ln R.toList) len&&(Nat.ble 1 te.size&&(Nat.ble (len*te.size) 65536&&Nat.beq (ln te.zero) te.size))))with
     |false=>rw[hc]at z;cases z
     | true=>
      rw[hc]at z;simp only[zB6]at z;generalize M:(R.toList.map λp=>yX (zK tm) p.2)=xs at z
      cases U:xs.all (λx=>Nat.beq (ln x.cells) te.size&&(x.ok&&x.nokey))with
      |false=>simp[U]at z
      | true=>
       simp only[U,zB6,zCd,zC6]at z;obtain⟨rfl,rfl,rfl,rfl⟩:=z;simp only[zA2]at hc;obtain⟨Y,c2,c3,c4,c5⟩:=hc;refine yV hP t hT hd I c3 ?_ (by rw[<-M];simpa using c2) U c4 c5;rw[<-M];apply zB0;intro j;simp only[bL,zAz,zEv,zB7]
       cases hj:R.toList[j]? with
       |none=>simp
       |some p=>
        have:=WU _ 0 Y j p.1 (by simp[hj]);simp[this]
    .cases z
   .cases z
  .cases z
 .split at z
  .rename_i ti hT;split at z
   .rename_i hd;split at z
    .rename_i hx;simp only[zCd,zC6]at z;obtain⟨rfl,rfl,rfl,rfl⟩:=z;exact Ib hP hx hT hd
    .rename_i hx;split at z
     .rename_i hk;simp only[zCd,zC6]at z;obtain⟨rfl,rfl,rfl,rfl⟩:=z;exact CP hP hx hk hT hd
     .cases z
    .rename_i hx;simp only[zCd,zC6]at z;obtain⟨rfl,rfl,rfl,rfl⟩:=z;exact CQ hP hx hT hd
    .cases z
   .cases z
  .cases z
 .split at z
  .rename_i hx C;simp only[zCd,zC6]at z;obtain⟨rfl,rfl,rfl,rfl⟩:=z;exact Ut hx C
  .cases z
 .split at z
  .rename_i hx C;simp only[zCd,zC6]at z;obtain⟨rfl,rfl,rfl,rfl⟩:=z;exact Tt hx C
  .cases z
 .cases z
end
def Jk:BinOp->Int->Int->Prop
 | .eql,a,b=>a=b
 | .neq,a,b=>a≠b
 | .lss,a,b=>a<b
 | .leq,a,b=>a<=b
 | .gtr,a,b=>b<a
 | .geq,a,b=>b<=a
 |_,_,_=>False
def uN:BinOp->Int->Int->Bool
 | .eql,a,b=>a==b
 | .neq,a,b=>a != b
 | .lss,a,b=>decide (a<b)
 | .leq,a,b=>decide (a<=b)
 | .gtr,a,b=>decide (b<a)
 | .geq,a,b=>decide (b<=a)
 |_,_,_=>false
section
variable {P:Program} {TT:List TI} {K0:List Nat} {F:Fr K0} {m:Nat} {ops:Array Oper} {rest:List Oper} {Q:List FP->St->Prop} {tm:List (Nat×AV)} {h:List (Nat×xW)} {dr:Bool} {fs:List FP}
variable {ty:Nat} {pos:String} {after:Array Edge} {t:Nat}
def uL (u:uZ P TT) {v:AV} (z:exec TT tm h t op=some (v,[],r,[])) (A:Nat.blt t m=true) (hk:yN P F m ops dr rest ⟨(t,v)::tm,h⟩ (⟨true,[],r⟩::fs) Q):
 yN P F m ops dr (⟨some t,op,ty,pos,after,none⟩::rest) ⟨tm,h⟩ fs Q:=wM (WX u z) A hk
def YU (u:uZ P TT) {v:AV} {k:Nat} {e:xW} (z:exec TT tm h t op=some (v,[(k,e)],r,nw)) (A:Nat.blt t m=true) (B:nw.all (λj=>(zD h j).isNone)=true) (hd:vX [(k,e)]=true)
 (hk:yN P F m ops dr rest ⟨(t,v)::tm,(k,e)::h⟩ (⟨true,k::nw,r⟩::fs) Q):yN P F m ops dr (⟨some t,op,ty,pos,after,none⟩::rest) ⟨tm,h⟩ fs Q:=uU (WX u z) A B hd hk
def cO (u:uZ P TT) {v:AV} {k:Nat} {e:xW} (z:exec TT tm h 0 op=some (v,[(k,e)],r,nw)) (A:nw.all (λj=>(zD h j).isNone)=true) (hd:vX [(k,e)]=true)
 (hk:yN P F m ops dr rest ⟨tm,(k,e)::h⟩ (⟨true,k::nw,r⟩::fs) Q):yN P F m ops dr (⟨none,op,ty,pos,after,none⟩::rest) ⟨tm,h⟩ fs Q:=L9 (WX u z) A hd hk
section
variable {op:BinOp} {tx t2:Nat} {x y:Operand} {k:IntKind} {a b:Int} (hop:Xe op=true) (hx:yX (zK tm) x= .s (.int k a)) (hy:yX (zK tm) y= .s (.int k b))
include hop hx hy
def bt:wX P ⟨tm,h⟩ (.binOp op tx x y t2) (.s (.bool (uN op a b))) [] [] []:=by
 cases op<;>first
  |exact HM hx hy
  |exact HN hx hy
  |exact HO hx hy
  |exact HP hx hy
  |exact HQ hx hy
  |exact HR hx hy
  |(simp[Xe]at hop)
def qh (hh:Jk op a b):wX P ⟨tm,h⟩ (.binOp op tx x y t2) (.s (.bool true)) [] [] []:=by
 cases op<;>first
  |exact Nk hx hy hh
  |exact Lk hx hy hh
  |exact Wk hx hy hh
  |exact Uk hx hy hh
  |exact Rk hx hy hh
  |exact Pk hx hy hh
  |(simp[Xe]at hop)
def jh (hh:¬Jk op a b):wX P ⟨tm,h⟩ (.binOp op tx x y t2) (.s (.bool false)) [] [] []:=by
 cases op<;>first
  |exact Mk hx hy hh
  |exact Kk hx hy (by simpa [Jk]using hh)
  |exact Vk hx hy hh
  |exact Sk hx hy hh
  |exact Qk hx hy hh
  |exact Ok hx hy hh
  |(simp[Xe]at hop)
end
end
def KY (H:jL X h β w) {K:Nat} (C:h K=none) (G:1<=sz):xU X w h β w (over [(K,.arr sz [] true)] h) (cY β K []):=
 xU.step H K _ _ (zAw _) (λ_ _ _=>rfl) Z Z Z (λb n u=>by simp at u) (λ_ _ _=>rfl) (λe A=>by rw[C]at A;cases A) (λE=>⟨G,by simp,λh=>absurd Z h,λi y z=>by simp at z,
  λb n r B=>by rw[yL]at B;simp at B,λ_ _=>undef,λi y j v z _=>by simp at z,λi j hi _=>by simp at hi,λb n u=>by rw[yL]at u;simp at u⟩)
def eO (hd:vX d=true) (A:∀k,h k≠some .dead):∀k,over d h k≠some .dead:=λk=>by
 unfold over;split
 .rename_i e z;intro u;cases u;exact qG hd z
 .exact A k
section
variable {P:Program} {K0:List Nat} {F:Fr K0} {m:Nat} {tm:List (Nat×AV)} {h:List (Nat×xW)}
theorem wK.virt (H:wK F m ⟨tm,h⟩ a w) (t K sz:Nat) (hv:zK tm t= .s (.slice none 0 0)) (I:(zD h K).isNone=true) (O:Nat.ble 1 sz=true):wK F m ⟨(t,.ref K 0 0)::tm,(K,.arr sz [] true)::h⟩ a w:=by
 obtain⟨⟨X,β,M,z,A,B,E,C⟩,S,gs,hl⟩:=H;have hk:zD h K=none:=by simpa using I
 have G:=KY z hk (zA8 O);have u:∀k,over [(K,.arr sz [] true)] (zD h) k≠some .dead:=eO Z S
 have R:WK F m (zK ((t,.ref K 0 0)::tm)) (over [(K,.arr sz [] true)] (zD h)) a w:=by
  refine⟨⟨X,_,M,G.hok,λj=>?_,B.goes G u (G.lives z u),λi hi=>?_,C.goes z G⟩,u,gs,hl⟩
  .rw[xF];split
   .rename_i hj;subst hj;have:=A j;rw[hv]at this;rw[this.s_inv];exact .ref0 K 0 sz [] true none (qU _ _ _) (zAw _)
   .exact(A j).evo G.evo
  .rw[xF]at hi;split at hi
   .cases hi
   .exact F.go G (E i hi)
 unfold wK;dsimp only;rw[show zD ((K,.arr sz [] true)::h)=over [(K,.arr sz [] true)] (zD h)from vD [(K,.arr sz [] true)] h];exact R
theorem wK.virtB (H:wK F m ⟨tm,h⟩ a w) (k i K sz:Nat) (hk:zD h k=some (.box cs)) (hv:cs[i]? =some (.s (.slice none 0 0))) (hK:(zD h K).isNone=true) (hp:Nat.ble 1 sz=true):wK F m ⟨tm,(k,.box (cs.set i (.ref K 0 0)))::(K,.arr sz [] true)::h⟩ a w:=by
 obtain⟨⟨X,β,hX,O,Y,KK,hJ,hD⟩,nd,gs,hl⟩:=H;have I:zD h K=none:=by simpa using hK
 have G:=KY O I (zA8 hp);have z:∀k,over [(K,.arr sz [] true)] (zD h) k≠some .dead:=eO Z nd;have u:k≠K:=λe=>by rw[e,I]at hk;cases hk
 have C:over [(K,.arr sz [] true)] (zD h) k=some (.box cs):=by rw[<-vD,zEr,xK,Os u];exact hk
 have M:=G.hok;have hβ:cY β K [] k=β k:=by unfold cY;rw[Os u]
 have B:xU X w _ (cY β K []) w (over [(k,.box (cs.set i (.ref K 0 0)))] (over [(K,.arr sz [] true)] (zD h))) (cY (cY β K []) k (cY β K [] k)):=
  xU.step M k (.box (cs.set i (.ref K 0 0))) (cY β K [] k) (zAw _) (λ_ _ _=>rfl) Z Z Z (λb n U=> .inl ⟨n,U⟩) (λ_ _ _=>rfl) (λe W=>by rw[C]at W;cases W;exact .inr ⟨⟨_,rfl⟩,λb n U=>U⟩) (λE=>by
   obtain⟨b,c,el,h1,h2,h3,h4,V⟩:=M.ent k _ C;refine⟨b,c,el,by rw[yL];exact h1,h2,by simpa using h3,h4,λj v hj=>?_⟩;rw[zDz]at hj;split at hj
   .rename_i S;subst S;split at hj
    .injection hj with hj
     subst hj;have h6:=V i _ hv;rw[h6.s_inv];refine .ref0 K 0 sz [] true none ?_ (zAw _);rw[show over [(k,xW.box (cs.set i (.ref K 0 0)))] (over [(K,.arr sz [] true)] (zD h)) K=_ from by rw[<-vD,<-vD,zEr,zEr,xK,Os (λe=>u e.symm),xK,f5 Z]]
    .cases hj
   .exact(V j v hj).evo E)
 have A:=eO (d:=[(k,.box (cs.set i (.ref K 0 0)))]) Z z
 have R:WK F m (zK tm) (over [(k,.box (cs.set i (.ref K 0 0)))] (over [(K,.arr sz [] true)] (zD h))) a w:=
  ⟨⟨X,_,hX,B.hok,λj=>((Y j).evo G.evo).evo B.evo,(KK.goes G z (G.lives O z)).goes B A (B.lives M A),λi hi=>F.go B (F.go G (hJ i hi)),(hD.goes O G).goes M B⟩,A,gs,hl⟩
 unfold wK;dsimp only;rw[show zD ((k,.box (cs.set i (.ref K 0 0)))::(K,.arr sz [] true)::h)=over [(k,.box (cs.set i (.ref K 0 0)))] (over [(K,.arr sz [] true)] (zD h))from(vD [(k,.box (cs.set i (.ref K 0 0)))] _).trans (zBb (over _) (vD [(K,.arr sz [] true)] h))];exact R
def zQ {c:Code} {Q:Exit->St->Prop} (t K sz:Nat) (hv:zK tm t= .s (.slice none 0 0)) (u:(zD h K).isNone=true) (z:Nat.ble 1 sz=true) (hk:uD P F m c ⟨(t,.ref K 0 0)::tm,(K,.arr sz [] true)::h⟩ Q):uD P F m c ⟨tm,h⟩ Q:=⟨λa w H=>hk.run a w (H.virt t K sz hv u z)⟩
def gI {c:Code} {Q:Exit->St->Prop} (k i K sz:Nat) {u:List AV} (hb:zD h k=some (.box cs)) (hv:cs[i]? =some (.s (.slice none 0 0))) (z:(zD h K).isNone=true) (A:Nat.ble 1 sz=true) (hc:cs.set i (.ref K 0 0)=u) (hk:uD P F m c ⟨tm,(k,.box u)::(K,.arr sz [] true)::h⟩ Q):
 uD P F m c ⟨tm,h⟩ Q:=⟨λa w H=>hk.run a w (hc▸H.virtB k i K sz hb hv z A)⟩
end
section
variable {P:Program} {TT:List TI} (hP:uZ P TT) {tm:List (Nat×AV)} {h:List (Nat×xW)}
include hP in
theorem SI {z:Operand} {u len:Nat} {k:IntKind} {i:Int} (hx:yX (zK tm) x= .ref u 0 len) (hi:yX (zK tm) z= .s (.int k i)) (hk:zD h u=some (.arr sz xs sl)) (hT:TT[T]? =some ti) (hd:ti.d= .slice e) (A:TT[e]? =some te)
 (h0:0<=i) (hl:i<len) (B:Nat.beq sz te.size=true):wX P ⟨tm,h⟩ (.indexAddr T x z) (.ptr u i.toNat 0) [] [u] []:=by
 have:=UP (st:=⟨tm,h⟩) hP hx hi hk hT hd A h0 hl B
 grind
end
section
variable {P:Program} {K0:List Nat} {F:Fr K0} {m:Nat} {ops:Array Oper} {rest:List Oper} {Q:List FP->St->Prop} {dr:Bool} {fs:List FP}
variable {ty t:Nat} {pos:String} {after:Array Edge} {st:St}
def yC {u:Nat} (hk:yN P F m ops dr (⟨some t,.call ⟨.builtin .append, #[s,x], #[T,u]⟩,ty,pos,after,none⟩::rest) st fs Q):yN P F m ops dr (⟨some t,.call ⟨.builtin .append, #[s,x], #[T,u]⟩,ty,pos,after,none⟩::rest) st fs Q:=hk
def vG (n:Nat) {u:Array Operand} {z:Array Nat} (hk:yN P F m ops dr (⟨some t,.call ⟨.value (.func n),u,z⟩,ty,pos,after,none⟩::rest) st fs Q):yN P F m ops dr (⟨some t,.call ⟨.value (.func n),u,z⟩,ty,pos,after,none⟩::rest) st fs Q:=hk
def ot {S D:Nat} (hk:yN P F m ops dr (⟨some t,.convert S D x,ty,pos,after,none⟩::rest) st fs Q):yN P F m ops dr (⟨some t,.convert S D x,ty,pos,after,none⟩::rest) st fs Q:=hk
def Ik {op:UnOp} (hk:yN P F m ops dr (⟨some t,.unOp op T x,ty,pos,after,none⟩::rest) st fs Q):yN P F m ops dr (⟨some t,.unOp op T x,ty,pos,after,none⟩::rest) st fs Q:=hk
end
def DV {tm:List (Nat×AV)} {h:List (Nat×xW)} {z u:Nat} {k A:IntKind} {n:Int} {I B:TI} (C:uZ P TT) (G:TT[z]? =some I) (hd:TT[u]? =some B) (hk:B.d= .int A) (hx:yX (zK tm) x= .s (.int k n)) (E:aB A n):
  wX P ⟨tm,h⟩ (.convert z u x) (.s (.int A n)) [] [] []:=by
 have:=CK (st:=⟨tm,h⟩) C G hd hk hx
 rwa [kI E]at this
def HI (k:IntKind) (n:Int):Int:=k.wrap (BitVec.ofInt k.bits (if k.signed=true then -1 else k.max) ^^^ BitVec.ofInt k.bits n).toNat
def We {k:IntKind} {n:Int} (hx:yX (zK st.tm) x= .s (.int k n)):wX P st (.unOp .xor tx x) (.s (.int k (HI k n))) [] [] []:=
 yZ λo X tm h w β a u A _ _ z=>by
  obtain⟨d0,o0,G,E,B,C⟩:=o;dsimp only at u;subst u;have h1:=vP z A (x:=x) uO hx;exact⟨.int k (HI k n),by simp[execOp,h1,Op.unary,Op.intBits,HI],.fz _ _ (.s _)⟩
theorem xO.frz {args:List AV} {r:AV} {I:AV} {z:List (Nat×xW)} (h:xO P f args [] r h1) (K:List Nat) (R:ZC (wT K (zD h1) r)=I) (hh:wU K (zD h1)=z) (C:vX z=true):xO P f args [] I z:=
 ⟨h.able,λk=>qG C,λX w β u hc H O=>(h.sim X w β u hc H O).mono λe w' ⟨c,β',A,G,hv⟩=>by
  obtain⟨M,E⟩:=G.hok.restr K;refine⟨c,λk=>if k∈K then β' k else [],A,⟨G.size,G.keep,λk b n B=>?_,G.bs,λk e A=>by simp[zD]at A,by rw[<-hh];exact M,G.os,G.tape,G.output⟩,?_⟩
  .split at B
   .exact G.own k b n B
   .simp at B
  .rw[<-hh,<-R]
   exact(E _ _ hv).wk⟩
