/- Part 2. -/
import Derived.Test.YtaglbcjljlkjcaaGreatX01
import Derived.Tactics
import Derived.Deep.LoopGhost
import Derived.TacticsIn
import Derived.OrdersIn
import Derived.RangeFuncCalls
import Derived.RangeFuncRecord
import Derived.LoopIn
import Derived.RangeFuncLeaves
import Derived.Orders
namespace Go.Proofs.YtaglbcjljlkjcaaGreat.Av
set_option linter.all false
open List renaming length->ln,range->pb,getD->pi
open Inhabited renaming default->dd
variable {a:Act}{after:Array Edge}{ops:Array Oper}{args:Array Operand}{b:Bool}{Q:Exit->Act->World->Prop}{sl:Fl}{K0 nw r:List Nat}{l:List Oper}{TT:List TI}{T e f i j k m n off sz t tx ty:Nat}{L:Nat->Bool}{D D' X:Nat->Prop}{op:Op}{o:Oper}{s x y:Operand}{P:Program}{pos:String}{te ti:TI}{c:Value}{w w':World}{β β':uP}{h h':yT}
section
def Mh (β:uP) (b:Nat):Prop:=∃k n,(b,n)∈β k
abbrev GS:Nat:=1000000
def BL (u:Option Nat):Fence:={Fence.wide with round:=u}
structure Fr (K0:List Nat) where
 X:Nat->Prop
 w0:World
 β0:uP
 h0:yT
 hK:∀k b n,(b,n)∈β0 k->k∈K0
 hh:∀k e,h0 k=some e->k∈K0
 ro:Option Nat
 it:Bool
 V:Nat->Prop
 J:Nat->(Nat->Prop)->(Nat->Prop)->World->Prop
 Jst:∀i O X w w' O',J i O X w->w.heap.size<=w'.heap.size->(∀b,b<w.heap.size->¬O b->w'.heap[b]? =w.heap[b]?)->(∀b,O' b->O b\/w.heap.size<=b)->(∀b,O' b->b<w'.heap.size)->w'.os=w.os->w'.tape=w.tape->w'.output=w.output->J i O' X w'
def zAm (h:yT) (k:Nat):xV->Prop
 | .box _=>∃cs,h k=some (.box cs)
 | .obj _=>∃cs,h k=some (.obj cs)
 | .arr sz xs _=>∃u st,h k=some (.arr sz u st)/\xs.length<=ln u
 | .dead=>False
variable {K0:List Nat}
structure fF (F:Fr K0) (h:yT) (β:uP) (w:World):Prop where
 knd:∀k e,F.h0 k=some e->zAm h k e
 size:F.w0.heap.size<=w.heap.size
 keep:∀b,b<F.w0.heap.size->¬F.V b->(∀k n,(b,n)∉F.β0 k)->w.heap[b]? =F.w0.heap[b]?
 own:∀k b n,(b,n)∈β k->(∃k' n',(b,n')∈F.β0 k')\/F.w0.heap.size<=b
 pas:∀k b n,(b,n)∈F.β0 k->∃n',n<=n'/\(b,n')∈β k
 bs:∀k b n,(b,n)∈F.β0 k->wO w b=wO F.w0 b
 os:w.os=F.w0.os
 tape:w.tape=F.w0.tape
 output:w.output=F.w0.output
def uB:List (Nat×xV)->Bool
 | []=>true
 |(_,.dead)::_=>false
 |_::r=>uB r
theorem qI:∀{d:List (Nat×xV)} {k:Nat},uB d=true->zD d k≠some .dead
 | [],k,_=>by simp[zD]
 |(j,e)::r,k,h=>by
  unfold zD
  cases e with
  |dead=>simp[uB]at h
  |box cs=>cases Nat.beq k j<;>simp;exact qI (by simpa [uB]using h)
  |obj cs=>cases Nat.beq k j<;>simp;exact qI (by simpa [uB]using h)
  |arr a b c=>cases Nat.beq k j<;>simp;exact qI (by simpa [uB]using h)
def oy (β β':uP):Prop:=∀k b n,(b,n)∈β k->∃u,n<=u/\(b,u)∈β' k
theorem xU.lives (H:jM X h β w) (G:xU X w h β w' h' β') (hd:∀k,h' k≠some .dead):oy β β':=by
 intro k b n z
 cases u:h k with
 |none=>rw[H.off k u]at z;simp at z
 |some e=>
  rcases G.key k e u with h1|h1
  all_goals grind
theorem fF.goes {F:Fr K0} (K:fF F h β w) (G:xU X w h β w' h' β') (O:∀k,h' k≠some .dead) (hl:oy β β'):fF F h' β' w' where
 knd k e he:=by
  have h1:=K.knd k e he
  cases e with
  |dead=>exact h1
  |box cs=>
   obtain⟨C,h2⟩:=h1;exact((G.key k _ h2).resolve_left (O k)).1
  |obj cs=>
   obtain⟨C,h2⟩:=h1;exact((G.key k _ h2).resolve_left (O k)).1
  |arr sz xs st=>
   obtain⟨U,st',h2,E⟩:=h1;obtain⟨B,A,I,S⟩:=((G.key k _ h2).resolve_left (O k)).1;exact⟨B,A,I,zCa E S⟩
 size:=zCa K.size G.size
 keep b hb hi hn:=by
  rw[G.keep b (zCb hb K.size),K.keep b hb hi hn];intro k n u
  rcases K.own k b n u with⟨R,z,h1⟩|h1
  .exact hn _ _ h1
  .omega
 own k b n u:=by
  rcases G.own k b n u with⟨R,z,h1⟩|h1
  .exact K.own R b z h1
  .exact .inr (zCa K.size h1)
 pas k b n u:=by
  obtain⟨z,h1,h2⟩:=K.pas k b n u;obtain⟨M,E,I⟩:=hl k b z h2;exact⟨M,zCa h1 E,I⟩
 bs k b n u:=by
  obtain⟨z,_,h2⟩:=K.pas k b n u;rw[G.bs k b z h2,K.bs k b n u]
 os:=G.os.trans K.os
 tape:=G.tape.trans K.tape
 output:=G.output.trans K.output
def P2 (X:Nat->Prop) (F:Fr K0) (z:List Deferred) (w:World):Prop:=
 ∃u:List Nat,z=u.map (λb=>{target:= .collected b,args:= #[]})/\(F.it=true->u=[])/\u.Nodup/\∀b,b∈u->X b/\F.w0.heap.size<=b/\w.heap[b]? =some (.deferred (some []))
theorem P2.goes {F:Fr K0} {u:List Deferred} (H:jM X h β w) (D:P2 X F u w) (G:xU X w h β w' h' β'):P2 X F u w':=by
 obtain⟨z,h1,A,h2,B⟩:=D;refine⟨z,h1,A,h2,λb hb=>?_⟩;obtain⟨q1,E,I⟩:=B b hb;exact⟨q1,E,by rw[G.keep b (H.lt b (.inl q1)) λk n C=>H.free k b n C q1];exact I⟩
theorem Fr.go {F:Fr K0} (G:xU X w h β w' h' β') (hj:F.J i (Mh β) X w):F.J i (Mh β') X w':=
 F.Jst i _ X w w' _ hj G.size (λb hb z=>G.keep b hb λk n u=>z ⟨k,n,u⟩) (λb ⟨k,n,u⟩=>(G.own k b n u).imp (λ⟨k',n',h⟩=>⟨k',n',h⟩) id) (λb ⟨k,n,u⟩=>G.hok.lt b (.inr ⟨k,n,u⟩)) G.os G.tape G.output
def Q6 (F:Fr K0) (X:Nat->Prop):Prop:=(∀b,F.X b->X b)/\∀b,X b->F.X b\/F.w0.heap.size<=b
structure VC (F:Fr K0) (m:Nat) (tm:Nat->AV) (h:yT) (a:Act) (w:World):Prop where
 ex:∃X β,Q6 F X/\jM X h β w/\(∀t,yK w (xT X β) h β (tm t) (a.eval (.tmp t)))/\fF F h β w/\(∀i,tm GS= .gh i->F.J i (Mh β) X w)/\P2 X F a.defers w
 nd:∀k,h k≠some .dead
 gs:m<=GS
 len:a.tmps.size=m
def wL (F:Fr K0) (m:Nat) (st:St):Act->World->Prop:=VC F m (zK st.tm) (zD st.h)
theorem xF (t:Nat) (v:AV) (u:List (Nat×AV)) (j:Nat):zK ((t,v)::u) j=if j=t then v else zK u j:=by simp_all [zK]
theorem xK (t:Nat) (v:xV) (u:List (Nat×xV)) (j:Nat):zD ((t,v)::u) j=if j=t then some v else zD u j:=by simp_all [zD]
theorem vF:∀(d h:List (Nat×xV)),zD (d++h)=over d (zD h)
 | [],_=>rfl
 |(k,e)::r,h=>by
  funext j
  have u:=congrFun (vF r h) j;simp only[zEl,over,xK]at *; split
  .rfl
  .exact u
theorem aP.wp {z:Option Nat} {K:Act->World->Prop} {N:Value->World->Prop} (hd:aP P N ((execOp a.eval o).run P w)) (h:∀c w',N c w'->K (a.put o.dst c) w'):o.wpIn (BL z) 0 P a w K Q:=by
 have A:(o.semAt (BL z).round a.eval).run P w=(execOp a.eval o).run P w:=by
  show(o.semAt z a.eval).run P w=_
  cases z with
  |none=>rfl
  | some l=>
   by_cases u:∃c,o.op= .defer c
   .exfalso;obtain⟨c,hc⟩:=u;revert hd;unfold execOp;rw[hc];simp only[Sem.run_bind]
    cases (resolve a.eval c o.type).run P w<;>simp[Result.andThen,aP]
   .rw[Oper.semAt_some l _ _ λc hc=>u ⟨c,hc⟩]
 refine⟨λ_ _=>trivial,?_⟩;rw[A];generalize (execOp a.eval o).run P w=r at hd
 cases r with
 |halt x w'=>exact hd.elim
 | ok n w'=>
  cases n with
  |value c=>exact h _ _ hd
  |skip=>exact h _ _ hd
  |enter f args=>
   refine⟨λB=>by simp[BL,Fence.wide]at B,?_⟩;exact callsIn_wide.2 (Calls.mono hd λe w'' ⟨c,he,hn⟩=>by subst he;exact h _ _ hn)
  |_=>exact hd.elim
theorem VC.put {F:Fr K0} {B:Nat->AV} (I:Q6 F X) (H:jM X h β w) (hv:∀t,yK w (xT X β) h β (B t) (a.eval (.tmp t))) (K:fF F h β w) (E:∀i,B GS= .gh i->F.J i (Mh β) X w) (hd:P2 X F a.defers w) (gs:m<=GS) (hl:a.tmps.size=m)
 (G:xU X w h β w' h' β') (A:∀k,h' k≠some .dead) {v:AV} (hc:yK w' (xT X β') h' β' v c) (u:Option Nat) (C:∀d,u=some d->d<m):
  VC F m (λt=>if u=some t then v else B t) h' (a.put u c) w':=by
 refine⟨⟨X,β',I,G.hok,λt=>?_,K.goes G A (G.lives H A),λi hi=>?_,by have:=hd.goes H G;cases u<;>exact this⟩,A,gs,by cases u<;>simp[Act.put,hl]⟩
 .split
  .rename_i z;subst z;have:t<a.tmps.size:=by rw[hl];exact C t Z
   have e:(a.put (some t) c).eval (.tmp t)=c:=by simp[Act.put,Act.eval,this]
   rw[e];exact hc
  .rename_i z;rw[Act.eval_put (λd hd e=>z (by rw[hd];injection e with e;rw[e]))];exact(hv t).evo G.evo
 .rw[Os (λe=>by have:=C GS e;omega)]at hi;exact F.go G (E i hi)
theorem vA.rel {st:St} {v:AV} {d:List (Nat×xV)} (Y:vA P st o.op v d r nw) {F:Fr K0} {u:Nat->AV} (H:VC F m u h a w)
 (h1:∀t,t∈fO o.op->u t=zK st.tm t) (h2:∀k,k∈r->h k=zD st.h k) (I:∀k,k∈nw->h k=none) (hd:uB d=true) (W:∀t,o.dst=some t->t<m) {K:Act->World->Prop} 
 (S:∀C w',VC F m (λt=>if o.dst=some t then v else u t) (over d h) C w'->K C w'):o.wpIn (BL F.ro) 0 P a w K Q:=by
 obtain⟨⟨X,β,U,A,B,E,R,O⟩,nd,gs,hl⟩:=H;refine aP.wp (Y.run X u h h1 h2 I o a w β rfl A B) ?_;rintro c w' ⟨β',G,hc⟩
 have z:∀k,over d h k≠some .dead:=λk=>by
  unfold over;split
  .rename_i e V;intro M;cases M;exact qI hd V
  .exact nd k
 exact S _ _ (VC.put U A B E R O gs hl G z hc o.dst W)
def QX {F:Fence} {a:Act} {w:World} {c:Code} (I:Nat->Act->World->Prop) (M:Nat) (R:I M a w)
 (z:∀k a w,I k a w->c.wpIn F n P (Exit.then (λA w'=>∃G,G<k/\I G A w') Q) a w):(Code.loop c).wpIn F n P Q a w:=by
 refine wpIn_loop (λa w=>∃k,I k a w) (λa w=>leastOf (λk=>I k a w)) ⟨M,R⟩ ?_;intro a w O;refine wpIn_mono (z _ a w (leastOf_spec O).1) ?_;intro e A w' E
 cases e with
 |normal=>
  obtain⟨C,B,u⟩:=E;exact show(∃n,I n A w')/\leastOf (λn=>I n A w')<leastOf (λn=>I n a w)from⟨⟨C,u⟩,Nat.lt_of_le_of_lt ((leastOf_spec ⟨C,u⟩).2 C u) B⟩
 |_=>exact E
structure uG (P:Program) (F:Fr K0) (m:Nat) (c:Code) (st:St) (Q:Exit->St->Prop):Prop where
 run:∀a w,wL F m st a w->c.wpIn (BL F.ro) 0 P (λe a' w'=>∃st',Q e st'/\wL F m st' a' w') a w
def GU (P:Program) (F:Fr K0) (m:Nat) (ops:Array Oper) (l:List Oper) (st:St) (Q:St->Prop):Prop:=
 ∀a w,wL F m st a w->wpListIn (BL F.ro) 0 P ops (λe u w'=>e= .normal/\∃st',Q st'/\wL F m st' u w') l a w
section
variable {P:Program} {F:Fr K0} {m:Nat} {Q:Exit->St->Prop} {st:St}
theorem uG.mono {c:Code} {u:Exit->St->Prop} (h:uG P F m c st Q) (z:∀e s,Q e s->u e s):uG P F m c st u:=
 ⟨λa w H=>Code.wpIn_mono (λ_ _ _ ⟨s,h1,h2⟩=>⟨s,z _ _ h1,h2⟩) (h.run a w H)⟩
def xJ (h:Q .normal st):uG P F m .skip st Q:=⟨λ_ _ H=>wpIn_skip ⟨st,h,H⟩⟩
def xL (h:Q .ret st):uG P F m .ret st Q:=⟨λ_ _ H=>wpIn_ret ⟨st,h,H⟩⟩
def xO {id:Nat} (h:Q (.exit id) st):uG P F m (.exit id) st Q:=⟨λ_ _ H=>wpIn_exit ⟨st,h,H⟩⟩
def XY (P:Program) (F:Fr K0) (m:Nat) (y:Code) (Q:Exit->St->Prop):Exit->St->Prop
 | .normal,s=>uG P F m y s Q
 |e,s=>Q e s
def xY {x y:Code} (h:uG P F m x st (XY P F m y Q)):uG P F m (.seq x y) st Q:=⟨λa w H=>
 wpIn_seq (Code.wpIn_mono (λe a' w' ⟨s,h1,h2⟩=>by
  cases e with
  |normal=>exact uG.run h1 a' w' h2
  |_=>exact⟨s,h1,h2⟩) (h.run a w H))⟩
def wA {c:Operand} {x y:Code} {t:Bool} (hc:yX (zK st.tm) c= .s (.bool t)) (h1:t=true->uG P F m x st Q) (h2:t=false->uG P F m y st Q):uG P F m (.cond c x y) st Q:=⟨λa w H=>by
 have hv:a.eval c= .bool t:=by
  obtain⟨⟨_,β,_,_,u,_⟩,_⟩:=H;have:=PZ u c;rw[hc]at this;exact this.s_inv
 exact wpIn_cond_split hv (λh=>(h1 h).run a w H) (λh=>(h2 h).run a w H)⟩
def yR {c:Operand} {x y:Code} (hc:yX (zK st.tm) c= .s (.bool true)) (h:uG P F m x st Q):uG P F m (.cond c x y) st Q:=wA hc (λ_=>h) (λh=>by cases h)
def yC {c:Operand} {x y:Code} (hc:yX (zK st.tm) c= .s (.bool false)) (h:uG P F m y st Q):uG P F m (.cond c x y) st Q:=wA hc (λh=>by cases h) (λ_=>h)
def Tm (id:Nat) (Q:Exit->St->Prop):Exit->St->Prop
 | .exit u,s=>bif Nat.beq u id then Q .normal s else Q (.exit u) s
 |e,s=>Q e s
def xC {id:Nat} {c:Code} (h:uG P F m c st (Tm id Q)):uG P F m (.block id c) st Q:=⟨λa w H=>
 wpIn_block (Code.wpIn_mono (λe a' w' ⟨s,h1,h2⟩=>by
  cases e with
  |exit z=>
   simp only[Exit.inBlock];split
   .rename_i u;subst u;simp only[Tm,Ch,zCm]at h1;exact⟨s,h1,h2⟩
   .rename_i u;simp only[Tm,II u,zC7]at h1;exact⟨s,h1,h2⟩
  |_=>exact⟨s,h1,h2⟩) (h.run a w H))⟩
def Kc {id:Nat} (h:GU P F m l.toArray l st (Q .normal)):uG P F m (.region id l.toArray false) st Q:=⟨λa w H=>
 Code.wpIn_mono (λe a' w' ⟨he,s,h1,h2⟩=>by subst he;exact⟨s,h1,h2⟩) (wpIn_region_lit (h a w H))⟩
end
end
mutual
def AV.refs:AV->List Nat
 | .ref k _ _| .ptr k _ _=>[k]
 | .agg cs| .fn _ cs| .tup cs=>jS cs
 |_=>[]
def jS:List AV->List Nat
 | []=>[]
 |v::r=>v.refs++jS r
end
mutual
def AV.nosl:AV->Bool
 | .sl _ _| .slc _ _| .fp _ _ _| .fm _ _=>false
 | .agg cs| .fn _ cs| .tup cs=>MB cs
 |_=>true
def MB:List AV->Bool
 | []=>true
 |v::r=>v.nosl&&MB r
end
mutual
def kC (K:List Nat) (h:yT):AV->AV
 | .ref k off len=>bif K.contains k then .ref k off len else match h k with
  |some (.arr _ xs fl)=>bif fl.nest then .bot else .sl false ((xs.drop off).take len)
  |_=> .bot
 | .ptr k i off=>bif K.contains k then .ptr k i off else .bot
 | .agg cs=> .agg (vM K h cs)
 | .fn f cs=> .fn f (vM K h cs)
 | .tup cs=> .tup (vM K h cs)
 |v=>v
def vM (K:List Nat) (h:yT):List AV->List AV
 | []=>[]
 |v::r=>kC K h v::vM K h r
end
mutual
def wY (K:List Nat) (h:yT):AV->AV
 | .ref k off len=>bif K.contains k then .ref k off len else match h k with
  |some (.arr _ xs fl)=>bif fl.nest then(bif vK (vM K h xs)then .sl false (((vM K h xs).drop off).take len)else .bot)else .sl false ((xs.drop off).take len)
  |_=> .bot
 | .ptr k i off=>bif K.contains k then .ptr k i off else .bot
 | .agg cs=> .agg (kQ K h cs)
 | .fn f cs=> .fn f (kQ K h cs)
 | .tup cs=> .tup (kQ K h cs)
 |v=>v
def kQ (K:List Nat) (h:yT):List AV->List AV
 | []=>[]
 |v::r=>wY K h v::kQ K h r
end
mutual
def ZG:AV->AV
 | .s v=>match v with
  | .slice none 0 0=> .sl false []
  |v=> .s v
 | .sl _ xs=> .sl false xs
 | .agg cs=> .agg (wkL cs)
 | .fn f cs=> .fn f (wkL cs)
 | .tup cs=> .tup (wkL cs)
 |v=>v
def wkL:List AV->List AV
 | []=>[]
 |v::r=>ZG v::wkL r
end
theorem wV:∀{cs:List AV} {i:Nat} {v:AV} {k:Nat},cs[i]? =some v->k∈v.refs->k∈jS cs
 | [],_,_,_,h,_=>by simp at h
 |x::r,0,v,k,h,hk=>by simp at h;subst h;simp[jS,hk]
 |x::r,i+1,v,k,h,hk=>by simp[jS,wV (show r[i]? =some v by simpa using h) hk]
variable {v xv:AV}{caps cs xs ys:List AV}{tm:Nat->AV}
theorem eU:∀{cs:List AV} {i:Nat} {v:AV},MB cs=true->cs[i]? =some v->v.nosl=true
 | [],_,_,_,h=>by simp at h
 |x::r,0,v,hk,h=>by simp at h;subst h;simp[MB]at hk;exact hk.1
 |x::r,i+1,v,hk,h=>by simp[MB]at hk;exact eU hk.2 MJ
theorem aM (K:List Nat) (h:yT):∀(cs:List AV) (i:Nat),(kQ K h cs)[i]? =(cs[i]?).map (wY K h)
 | [],i=>by simp[kQ]
 |x::r,0=>by simp[kQ]
 |x::r,i+1=>by simp[kQ,aM K h r i]
theorem bR (K:List Nat) (h:yT):∀(cs:List AV) (i:Nat),(vM K h cs)[i]? =(cs[i]?).map (kC K h)
 | [],i=>by simp[vM]
 |x::r,0=>by simp[vM]
 |x::r,i+1=>by simp[vM,bR K h r i]
theorem kK (K:List Nat) (h:yT):∀(cs:List AV),(vM K h cs).length=ln cs
 | []=>rfl
 |x::r=>by simp[vM,kK K h r]
theorem ZS (h:v.isAgg=false):v.cells=[v]:=by cases v<;>first|rfl|(simp[AV.isAgg]at h)
def MC (K:List Nat) (h:yT) (x:AV):(kC K h x).cells=vM K h x.cells:=by
 cases x with
 |agg cs=>rfl
 | ref k off len=>
  apply ZS;unfold kC
  cases K.contains k with
  |true=>rfl
  | false=>
   simp only[zC7]
   rcases h k with _|(_|⟨_,_,fl⟩|_|_)
   .rfl
   .rfl
   .dsimp only
    cases fl.nest<;>rfl
   .rfl
   .rfl
 |ptr k i off=>apply ZS;unfold kC;cases K.contains k<;>rfl
 |_=>rfl
def MD (K:List Nat) (h:yT) (x:AV):(wY K h x).cells=kQ K h x.cells:=by
 cases x with
 |agg cs=>rfl
 | ref k off len=>
  apply ZS;unfold wY
  cases K.contains k with
  |true=>rfl
  | false=>
   simp only[zC7]
   rcases h k with _|(_|⟨_,xs,fl⟩|_|_)
   .rfl
   .rfl
   .dsimp only
    cases fl.nest with
    |false=>rfl
    |true=>
     simp only[zCm]
     cases vK (vM K h xs)<;>rfl
   .rfl
   .rfl
 |ptr k i off=>apply ZS;unfold wY;cases K.contains k<;>rfl
 |_=>rfl
theorem QF {x:AV} (h:x.nokey=true):vK x.cells=true:=by
 by_cases u:x.isAgg=true
 .cases x<;>first
   |exact h
   |(simp[AV.isAgg]at u)
 all_goals grind [vK,ZS]
theorem uC (K:List Nat) (h:yT):∀(cs:List AV),(kQ K h cs).length=ln cs
 | []=>rfl
 |x::r=>by simp[kQ,uC K h r]
theorem Jc:∀(cs:List AV) (i:Nat),(wkL cs)[i]? =(cs[i]?).map ZG
 | [],i=>by simp[wkL]
 |x::r,0=>by simp[wkL]
 |x::r,i+1=>by simp[wkL,Jc r i]
theorem cC:∀(cs:List AV),(wkL cs).length=ln cs
 | []=>rfl
 |x::r=>by simp[wkL,cC r]
theorem Xf:∀cs:List AV,wkL cs=cs.map ZG
 | []=>rfl
 |x::r=>by simp[wkL,Xf r]
theorem xM.wk :∀{v:AV} {c:Value},xM w D v c->xM w D (ZG v) c:=by
 intro v c hv
 induction hv with
 |bot c=>exact .bot c
 |gh n c=>exact .gh n c
 |s v=>
  unfold ZG;split
  .exact .nil _ _
  .exact .s _
 | agg cs c hl h1 _ C=>
  exact .agg _ c (by rw[cC];exact hl) h1 λi v hv=>by
   grind [ZG,Jc,Option.map_eq_some_iff]
 |nil a cap=>exact .nil _ _
 |nil1 a cap=>exact .nil _ _
 |sl E xs b o sz cap f z hL hc hh _=>exact .sl false xs b o sz cap f z hL hc hh
 |slc cap xs b o sz f hL hc hh _=>exact .slc cap xs b o sz f hL hc hh
 |fp xs b o sz i off f hL hi u hh _=>exact .fp xs b o sz i off f hL hi u hh
 |fm B p b x u hl hd z A=>exact .fm B p b x u hl hd z A
theorem yK.wk :∀{v:AV} {c:Value},yK w D h β v c->yK w D h β (ZG v) c:=by
 intro v c hv
 have z:∀{cs:List AV} {c:Array Value} (u:∀(i:Nat) v,cs[i]? =some v->yK w D h β (ZG v) (c.getD i undef)) (i:Nat) v,(wkL cs)[i]? =some v->yK w D h β v (c.getD i undef):=λu i v hv=>by
  rw[Jc,zBp]at hv
  grind
 induction hv with
 |fz v c B=>exact .fz _ _ B.wk
 |agg cs c hl h1 _ u=>exact .agg _ c (by rw[cC];exact hl) h1 (z u)
 |fn f caps c hl _ u=>exact .fn f _ c (by rw[cC];exact hl) (z u)
 |tup vs c hl _ u=>exact .tup _ c (by rw[cC];exact hl) (z u)
 |dref k off len c hk h1=>exact .dref _ _ _ _ hk h1
 |dptr k i off c hk h1=>exact .dptr _ _ _ _ hk h1
 |ref k off len sz xs st b n cap hk hb A hc E=>exact .ref k off len sz xs st b n cap hk hb A hc E
 |ref0 k off sz xs st a hk A=>exact .ref0 k off sz xs st a hk A
 |pbox k off cs b n hk hb=>exact .pbox k off cs b n hk hb
 |parr k i off sz xs st b n hk hb hi C=>exact .parr k i off sz xs st b n hk hb hi C
theorem xM.free :∀{v:AV} {c:Value},xM w D v c->v.nosl=true->xM w D' v c:=by
 intro v c hv
 induction hv with
 |bot c=>exact λ_=> .bot c
 |gh n c=>exact λ_=> .gh n c
 |s v=>exact λ_=> .s v
 |agg cs c hl h1 _ z=>exact λu=> .agg cs c hl h1 λi v hv=>z i v hv (eU (by simpa [AV.nosl]using u) hv)
 |_=>intro u;simp[AV.nosl]at u
theorem yK.fz0 (H:jM X h β w) {K:List Nat} 
 (hk:∀k,k∈K->∀e,h k=some e->match e with| .box _=>∃C,h' k=some (.box C)| .obj _=>∃C,h' k=some (.obj C)| .arr sz xs _=>∃A st',h' k=some (.arr sz A st')/\xs.length=ln A| .dead=>h' k=some .dead) (hβ:∀k,k∈K->β' k=β k) (hD:∀b,b<w.heap.size->¬xT X β b->¬D' b)
 (hv:yK w (xT X β) h β v c):(∀k,k∈v.refs->k∈K\/∀b n,(b,n)∈β k->¬D' b)->yK w D' h' β' (kC K h v) c:=by
 have S:∀{cs:List AV} {c:Array Value} (I:∀(i:Nat) v,cs[i]? =some v->(∀k,k∈v.refs->k∈K\/∀b n,(b,n)∈β k->¬D' b)->yK w D' h' β' (kC K h v) (c.getD i undef)) (B:∀k,k∈jS cs->k∈K\/∀b n,(b,n)∈β k->¬D' b)
   (i:Nat) v,(vM K h cs)[i]? =some v->yK w D' h' β' v (c.getD i undef):=λI B i v hv=>by
  rw[bR,zBp]at hv;obtain⟨u,hu,rfl⟩:=hv;exact I i u hu λk hk=>B k (wV hu hk)
 have E:∀{v c},xM w (xT X β) v c->xM w D' v c:=λW=>W.evo (zBb _) λb hb hd=>⟨rfl,hD b hb hd⟩
 have z:∀{k},K.contains k=true↔k∈K:=λ{k}=>by simp
 induction hv with
 | fz v c W=>
  intro _
  have:xM w D' (kC K h v) c:=by
   have h2:∀{v c},xM w (xT X β) v c->xM w D' (kC K h v) c:=by
    intro v c W
    induction W with
    |bot c=>exact .bot c
    |gh n c=>exact .gh n c
    |s v=>exact .s v
    | agg cs c hl h1 _ I=>
     exact .agg _ c (by rw[kK];exact hl) h1 λi v hv=>by
      rw[bR,zBp]at hv
      grind
    |nil a cap=>exact .nil _ _
    |nil1 a cap=>exact .nil1 _ _
    |sl nn xs b o sz cap f hx hL hc hh _=>exact E (.sl nn xs b o sz cap f hx hL hc hh)
    |slc cap xs b o sz f hL hc hh _=>exact E (.slc cap xs b o sz f hL hc hh)
    |fp xs b o sz i off f hL hi Y hh _=>exact E (.fp xs b o sz i off f hL hi Y hh)
    |fm ob p b x Y hl hd hx hp=>exact E (.fm ob p b x Y hl hd hx hp)
   exact h2 W
  exact .fz _ _ this
 |agg cs c hl h1 _ I=>exact λB=> .agg _ c (by rw[kK];exact hl) h1 (S I B)
 |fn f caps c hl _ I=>exact λB=> .fn f _ c (by rw[kK];exact hl) (S I B)
 |tup vs c hl _ I=>exact λB=> .tup _ c (by rw[kK];exact hl) (S I B)
 |dref k off len c hk' h1=>
  intro B;unfold kC
  cases hc:K.contains k with
  |true=>exact .dref _ _ _ _ (hk k (z.1 hc) _ hk') h1
  |false=>simp only[hk',zC7];exact .fz _ _ (.bot _)
 |dptr k i off c hk' h1=>
  intro B;unfold kC
  cases hc:K.contains k with
  |true=>exact .dptr _ _ _ _ (hk k (z.1 hc) _ hk') h1
  |false=>exact .fz _ _ (.bot _)
 | ref k off len sz xs st b n cap hk' hb hn V hs=>
  intro B;unfold kC
  cases hc:K.contains k with
  |true=>obtain⟨A,st',G,_⟩:=hk k (z.1 hc) _ hk';exact .ref k off len sz A st' b n cap G (by rw[hβ k (z.1 hc)];exact hb) hn V hs
  | false=>
   simp only[hk',zC7]
   cases R:st.nest with
   |true=>exact .fz _ _ (.bot _)
   |false=>
   simp only[zC7];have ag:¬k∈K:=λh=>by rw[z.2 h]at hc;cases hc
   have O:=(B k (by simp[AV.refs])).resolve_left ag;obtain⟨g1,g2,g3,g4,g5,f,g6,g7,g8⟩:=H.ent k _ hk'
   have ap:n<=ln xs:=by
    cases hbk:β k with
    |nil=>rw[hbk]at hb;simp at hb
    |cons q rr=>
     obtain⟨b0,n0⟩:=q;obtain⟨e1,_,e3⟩:=g5 b0 n0 rr hbk;rw[hbk]at hb;simp at hb
     rcases hb with⟨_,rfl⟩|hb
     .omega
     .exact zFk (e3 b n hb)
   have hl:((xs.drop off).take len).length=len:=by simp;omega
   by_cases hz:len=0
   .subst hz;simp only[zEm];exact .fz _ _ (.nil _ _)
   .have U:∀(i:Nat) y,((xs.drop off).take len)[i]? =some y->xs[off+i]? =some y:=λi y M=>by
     rw[zCv]at M;split at M
     .rwa [zDe]at M
     .cases M
    obtain⟨cc,el,e1,e2,e3,_⟩:=g8 b n hb
    have:=xM.sl (w:=w) (D:=D') false ((xs.drop off).take len) b (off*sz) sz cap (λi j=>f (off+i) j) (λh0=>hz (by rw[<-hl,h0];rfl))
     ⟨H.lt b (.inr ⟨k,n,hb⟩),O b n hb,g1,by rw[hl];omega,λi y M=>g4 _ y (U i y M),λi j hi hj=>by
      rw[hl]at hi;rw[uU e1,show off*sz+i*sz+j=(off+i)*sz+j by rw[zCi]]
      exact e3 _ _ (by omega) hj,λi j hi hj=>g7 _ _ Nf hj⟩ (by rw[hl];exact V) (λi y j v M hv=>E (g6.toF R _ y j v (U i y M) hv))
    rw[hl]at this;exact .fz _ _ this
 | ref0 k off sz xs st a hk' hn=>
  intro B;unfold kC
  cases hc:K.contains k with
  |true=>obtain⟨A,st',G,ac⟩:=hk k (z.1 hc) _ hk';exact .ref0 k off sz A st' a G (ac▸hn)
  |false=>
   simp only[hk',zC7,zEm]
   cases st.nest with
   |true=>exact .fz _ _ (.bot _)
   |false=>exact .fz _ _ (.nil _ _)
 | pbox k off cs b n hk' hb=>
  intro B;unfold kC
  cases hc:K.contains k with
  |true=>
   obtain⟨C,h2⟩:=hk k (z.1 hc) _ hk';exact .pbox k off C b n h2 (by rw[hβ k (z.1 hc)];exact hb)
  |false=>exact .fz _ _ (.bot _)
 |parr k i off sz xs st b n hk' hb hi Y=>
  intro B;unfold kC
  cases hc:K.contains k with
  |true=>obtain⟨A,st',G,_⟩:=hk k (z.1 hc) _ hk';exact .parr k i off sz A st' b n G (by rw[hβ k (z.1 hc)];exact hb) hi Y
  |false=>exact .fz _ _ (.bot _)
theorem yK.frz (H:jM X h β w) {K:List Nat} 
 (hk:∀k,k∈K->∀e,h k=some e->match e with| .box _=>∃E,h' k=some (.box E)| .obj _=>∃E,h' k=some (.obj E)| .arr sz xs _=>∃C st',h' k=some (.arr sz C st')/\xs.length=ln C| .dead=>h' k=some .dead) (hβ:∀k,k∈K->β' k=β k) (hD:∀b,b<w.heap.size->¬xT X β b->¬D' b) (Y:∀k,¬k∈K->∀b n,(b,n)∈β k->¬D' b)
 (hv:yK w (xT X β) h β v c):yK w D' h' β' (wY K h v) c:=by
 have V:∀{cs:List AV} {c:Array Value} (R:∀(i:Nat) v,cs[i]? =some v->yK w D' h' β' (wY K h v) (c.getD i undef))
   (i:Nat) v,(kQ K h cs)[i]? =some v->yK w D' h' β' v (c.getD i undef):=λR i v hv=>by
  rw[aM,zBp]at hv;obtain⟨u,hu,rfl⟩:=hv;exact R i u hu
 have G:∀{v c},xM w (xT X β) v c->xM w D' v c:=λW=>W.evo (zBb _) λb hb hd=>⟨rfl,hD b hb hd⟩
 have z:∀{k},K.contains k=true↔k∈K:=λ{k}=>by simp
 induction hv with
 | fz v c W=>
  have:xM w D' (wY K h v) c:=by
   have h2:∀{v c},xM w (xT X β) v c->xM w D' (wY K h v) c:=by
    intro v c W
    induction W with
    |bot c=>exact .bot c
    |gh n c=>exact .gh n c
    |s v=>exact .s v
    | agg cs c hl h1 _ R=>
     exact .agg _ c (by rw[uC];exact hl) h1 λi v hv=>by
      rw[aM,zBp]at hv
      grind
    |nil a cap=>exact .nil _ _
    |nil1 a cap=>exact .nil1 _ _
    |sl nn xs b o sz cap f O hL hc hh _=>exact G (.sl nn xs b o sz cap f O hL hc hh)
    |slc cap xs b o sz f hL hc hh _=>exact G (.slc cap xs b o sz f hL hc hh)
    |fp xs b o sz i off f hL hi ho hh _=>exact G (.fp xs b o sz i off f hL hi ho hh)
    |fm ob p b x ho hl hd O hp=>exact G (.fm ob p b x ho hl hd O hp)
   exact h2 W
  exact .fz _ _ this
 |agg cs c hl h1 _ R=>exact .agg _ c (by rw[uC];exact hl) h1 (V R)
 |fn f caps c hl _ R=>exact .fn f _ c (by rw[uC];exact hl) (V R)
 |tup vs c hl _ R=>exact .tup _ c (by rw[uC];exact hl) (V R)
 |dref k off len c hk' h1=>
  unfold wY
  cases hc:K.contains k with
  |true=>exact .dref _ _ _ _ (hk k (z.1 hc) _ hk') h1
  |false=>simp only[hk',zC7];exact .fz _ _ (.bot _)
 |dptr k i off c hk' h1=>
  unfold wY
  cases hc:K.contains k with
  |true=>exact .dptr _ _ _ _ (hk k (z.1 hc) _ hk') h1
  |false=>exact .fz _ _ (.bot _)
 | ref k off len sz xs st b n cap hk' hb hn S hs=>
  unfold wY
  cases hc:K.contains k with
  |true=>obtain⟨C,st',B,_⟩:=hk k (z.1 hc) _ hk';exact .ref k off len sz C st' b n cap B (by rw[hβ k (z.1 hc)];exact hb) hn S hs
  | false=>
   simp only[hk',zC7];have ap:¬k∈K:=λh=>by rw[z.2 h]at hc;cases hc
   have M:=Y k ap;obtain⟨g1,g2,g3,g4,g5,f,g6,g7,g8⟩:=H.ent k _ hk'
   have ax:n<=ln xs:=by
    cases hbk:β k with
    |nil=>rw[hbk]at hb;simp at hb
    |cons q rr=>
     obtain⟨b0,n0⟩:=q;obtain⟨e1,_,e3⟩:=g5 b0 n0 rr hbk;rw[hbk]at hb;simp at hb
     rcases hb with⟨_,rfl⟩|hb
     .omega
     .exact zFk (e3 b n hb)
   cases U:st.nest with
   | true=>
    simp only[zCm]
    cases ar:vK (vM K h xs)with
    |false=>exact .fz _ _ (.bot _)
    |true=>
    simp only[zCm];have ac:(vM K h xs).length=ln xs:=kK K h xs;have hl:(((vM K h xs).drop off).take len).length=len:=by simp[ac];omega
    by_cases hz:len=0
    .subst hz;simp only[zEm];exact .fz _ _ (.nil _ _)
    have I:∀(i:Nat) y,(((vM K h xs).drop off).take len)[i]? =some y->∃x,xs[off+i]? =some x/\y=kC K h x:=λi y A=>by
     rw[zCv]at A;split at A
     .rw[zDe,bR,zBp]at A;obtain⟨x,O,rfl⟩:=A;exact⟨x,O,rfl⟩
     .cases A
    obtain⟨cc,el,e1,e2,e3,_⟩:=g8 b n hb
    have:=xM.sl (w:=w) (D:=D') false (((vM K h xs).drop off).take len) b (off*sz) sz cap (λi j=>f (off+i) j) (λh0=>hz (by rw[<-hl,h0];rfl))
     ⟨H.lt b (.inr ⟨k,n,hb⟩),M b n hb,g1,by rw[hl];omega,λi y A=>by
      obtain⟨x,O,rfl⟩:=I i y A;rw[MC,kK]
      exact g4 _ x O,λi j hi hj=>by
      rw[hl]at hi;rw[uU e1,show off*sz+i*sz+j=(off+i)*sz+j by rw[zCi]]
      exact e3 _ _ (by omega) hj,λi j hi hj=>g7 _ _ Nf hj⟩ (by rw[hl];exact S) (λi y j v A hv=>by
      obtain⟨x,O,rfl⟩:=I i y A;have av:(kC K h x).nokey=true:=jN ar (show(vM K h xs)[off+i]? =some (kC K h x) by rw[bR,O];rfl);have au:v.nokey=true:=jN (QF av) hv;rw[MC,bR,zBp]at hv;obtain⟨u,hu,rfl⟩:=hv
      exact(yK.fz0 H hk hβ hD (g6.toV _ x j u O hu) λk' _=>by
       by_cases B:k'∈K
       .exact .inl B
       .exact .inr (Y k' B)).toF au)
    rw[hl]at this;exact .fz _ _ this
   |false=>
   simp only[zC7];have hl:((xs.drop off).take len).length=len:=by simp;omega
   by_cases hz:len=0
   .subst hz;simp only[zEm];exact .fz _ _ (.nil _ _)
   .have I:∀(i:Nat) y,((xs.drop off).take len)[i]? =some y->xs[off+i]? =some y:=λi y A=>by
     rw[zCv]at A;split at A
     .rwa [zDe]at A
     .cases A
    obtain⟨cc,el,e1,e2,e3,_⟩:=g8 b n hb
    have:=xM.sl (w:=w) (D:=D') false ((xs.drop off).take len) b (off*sz) sz cap (λi j=>f (off+i) j) (λh0=>hz (by rw[<-hl,h0];rfl))
     ⟨H.lt b (.inr ⟨k,n,hb⟩),M b n hb,g1,by rw[hl];omega,λi y A=>g4 _ y (I i y A),λi j hi hj=>by
      rw[hl]at hi;rw[uU e1,show off*sz+i*sz+j=(off+i)*sz+j by rw[zCi]]
      exact e3 _ _ (by omega) hj,λi j hi hj=>g7 _ _ Nf hj⟩ (by rw[hl];exact S) (λi y j v A hv=>G (g6.toF U _ y j v (I i y A) hv))
    rw[hl]at this;exact .fz _ _ this
 | ref0 k off sz xs st a hk' hn=>
  unfold wY
  cases hc:K.contains k with
  |true=>obtain⟨C,st',B,ag⟩:=hk k (z.1 hc) _ hk';exact .ref0 k off sz C st' a B (ag▸hn)
  | false=>
   simp only[hk',zC7,zEm]
   cases st.nest with
   |true=>
    simp only[zCm]
    cases vK (vM K h xs)with
    |true=>exact .fz _ _ (.nil _ _)
    |false=>exact .fz _ _ (.bot _)
   |false=>exact .fz _ _ (.nil _ _)
 | pbox k off cs b n hk' hb=>
  unfold wY
  cases hc:K.contains k with
  |true=>
   obtain⟨E,h2⟩:=hk k (z.1 hc) _ hk';exact .pbox k off E b n h2 (by rw[hβ k (z.1 hc)];exact hb)
  |false=>exact .fz _ _ (.bot _)
 |parr k i off sz xs st b n hk' hb hi ho=>
  unfold wY
  cases hc:K.contains k with
  |true=>obtain⟨C,st',B,_⟩:=hk k (z.1 hc) _ hk';exact .parr k i off sz C st' b n B (by rw[hβ k (z.1 hc)];exact hb) hi ho
  |false=>exact .fz _ _ (.bot _)
def kD (K:List Nat) (h:yT):xV->xV
 | .box cs=> .box (kQ K h cs)
 | .obj cs=> .obj cs
 | .arr sz xs u=>bif u.nest then .arr sz (kQ K h xs) ⟨u.stale,!vK (kQ K h xs)⟩else .arr sz xs u
 | .dead=> .dead
def gV (K:List Nat) (h:yT) (sz:Nat) (xs:List AV) (A:Fl):∃u z,kD K h (.arr sz xs A)= .arr sz u z/\u.length=ln xs:=by
 cases B:A.nest with
 |true=>exact⟨_,_,by simp only[kD,B,zCm];rfl,uC K h xs⟩
 |false=>exact⟨_,_,by simp only[kD,B,zC7];rfl,rfl⟩
theorem GV {K:List Nat} (hv:wY K h v= .gh i):v= .gh i:=by
 cases v<;>first
  |exact hv
  |(simp[wY]at hv;done)
  |skip
 all_goals
  exfalso;rename_i k _ _;unfold wY at hv
  grind
def wZ (K:List Nat) (h:yT):List (Nat×xV)
 :=K.filterMap λk=>(h k).map λe=>(k,kD K h e)
def restr (K u:List Nat) (st:St):St:=⟨u.map λt=>(t,wY K (zD st.h) (zK st.tm t)),wZ K (zD st.h)⟩
theorem wH (K:List Nat) (h:yT) (k:Nat):zD (wZ K h) k=if k∈K then(h k).map (kD K h)else none:=by
 unfold wZ;generalize kD K h=g
 induction K with
 |nil=>rfl
 | cons j K u=>
  rw[List.filterMap_cons]
  cases hj:h j with
  |none=>
   grind
  |some e=>
   simp only[zC0,xK,u,zCt]
   grind
theorem gG (K u:List Nat) (st:St) (t:Nat):zK (restr K u st).tm t=if t∈u then wY K (zD st.h) (zK st.tm t)else .bot:=by
 unfold restr;dsimp only;generalize wY K (zD st.h)=g
 induction u with
 |nil=>rfl
 |cons j u z=>
  grind [zK,restr,wY,zD,xF]
theorem jM.restr (H:jM X h β w) (K:List Nat):
  jM X (zD (wZ K h)) (λk=>if k∈K then β k else []) w/\∀v c,yK w (xT X β) h β v c->yK w (xT X λk=>if k∈K then β k else []) (zD (wZ K h)) (λk=>if k∈K then β k else []) (wY K h v) c:=by
 have A:∀b,xT X (λk=>if k∈K then β k else []) b->xT X β b:=λb hd=>by
  rcases hd with B|⟨k,n,z⟩
  .exact .inl B
  ·(try dsimp only at z)
   split at z
   .exact .inr ⟨k,n,z⟩
   .simp at z
 have hv:∀v c,yK w (xT X β) h β v c->yK w (xT X λk=>if k∈K then β k else []) (zD (wZ K h)) (λk=>if k∈K then β k else []) (wY K h v) c:=λv c hv=>by
  refine yK.frz H (K:=K) (λk hk e C=>?_) (λk hk=>by simp[hk]) (λb _ hd h'=>hd (A b h')) (λk hk b n z=>?_) hv
  .rw[wH,zA5 hk,C]
   cases e with
   |box cs=>exact⟨_,rfl⟩
   |obj cs=>exact⟨_,rfl⟩
   |arr sz xs fl=>
    cases M:fl.nest with
    |true=>exact⟨_,_,by simp only[zC0,kD,M,zCm];rfl,(uC K h xs).symm⟩
    |false=>exact⟨_,_,by simp only[zC0,kD,M,zC7];rfl,rfl⟩
   |dead=>rfl
  .rintro(B|⟨k',n',E⟩)
   .exact H.free k b n z B
   ·(try dsimp only at E)
    split at E
    .rename_i hk';exact hk (H.disj k k' b n n' z E▸hk')
    .simp at E
 have ef:∀{v c},xM w (xT X β) v c->xM w (xT X λk=>if k∈K then β k else []) v c:=λhf=>hf.evo (zBb _) λb _ hd=>⟨rfl,λh'=>hd (A b h')⟩
 refine⟨⟨λk e C=>?_,λk C=>?_,λk k' b n n' h1 h2=>?_,λk b n z=>?_,λb hd=>H.lt b (A b hd)⟩,hv⟩
 .rw [wH]at C;split at C
  .rename_i hk;rw[zBp]at C;obtain⟨V,S,rfl⟩:=C;have:=H.ent k V S
   cases V with
   |dead=>show(if k∈K then β k else [])=[];rw[zA5 hk];exact this
   |box cs=>
    obtain⟨b,c,el,h1,h2,h3,h4,h5⟩:=this;refine⟨b,c,el,by(try dsimp only);rw[zA5 hk];exact h1,h2,by rw[uC];exact h3,h4,λi v hi=>?_⟩;rw[aM,zBp]at hi;obtain⟨u,U,rfl⟩:=hi;exact hv u _ (h5 i u U)
   |obj cs=>
    exact⟨by(try dsimp only);rw[zA5 hk];exact this.1,this.2⟩
   | arr sz xs st=>
    obtain⟨W,Y,g3,g4,g5,f,g6,g7,g8⟩:=this
    cases M:st.nest with
    |false=>
     simp only[kD,M,zC7];exact⟨W,Y,by(try dsimp only);rw[zA5 hk];exact g3,g4,by(try dsimp only);rw[zA5 hk];exact g5,f,.ofF λi x j v B G=>ef (g6.toF M i x j v B G),g7,by(try dsimp only);rw[zA5 hk];exact g8⟩
    | true=>
     simp only[kD,M,zCm];have hl:=uC K h xs
     have O:∀(i:Nat) y,(kQ K h xs)[i]? =some y->∃x,xs[i]? =some x/\y=wY K h x:=λi y G=>by
      rw[aM,zBp]at G;obtain⟨x,B,rfl⟩:=G;exact⟨x,B,rfl⟩
     refine⟨W,by rw[hl];exact Y,λR=>by(try dsimp only);rw[zA5 hk];exact g3 (λh1=>R (by rw[h1];rfl)),λi y G=>?_,by(try dsimp only);rw[zA5 hk,hl];exact g5,f,λi y j v G I=>?_,by rw[hl];exact g7,by(try dsimp only);rw[zA5 hk];exact g8⟩
     .obtain⟨x,B,rfl⟩:=O i y G;rw[MD,uC];exact g4 i x B
     .obtain⟨x,B,rfl⟩:=O i y G
      have hR:yK w (xT X λk=>if k∈K then β k else []) (zD (wZ K h)) (λk=>if k∈K then β k else []) v (f i j):=by
       rw[MD,aM,zBp]at I;obtain⟨u,U,rfl⟩:=I;exact hv u _ (g6.toV i x j u B U)
      exact⟨hR,λR=>hR.toF (jN (QF (jN (by simpa using R) G)) I)⟩
  .cases C
 ·(try dsimp only)
  split
  .rename_i hk;rw[wH,zA5 hk]at C
   cases hk':h k with
   |none=>exact H.off k hk'
   |some e=>simp[hk']at C
  .rfl
 ·(try dsimp only at h1 h2)
  split at h1<;>split at h2
  .exact H.disj _ _ _ _ _ h1 h2
  .simp at h2
  all_goals simp at h1
 ·(try dsimp only at z)
  split at z
  .exact H.free k b n z
  .simp at z
theorem wL.restrM {F:Fr K0} {st:St} (R:wL F m st a w) (K W:List Nat) (hK:K0.all (K.contains ·)=true) {A:Nat->AV} (hg:A GS=zK (restr K W st).tm GS)
 (ht:∀t,A t=zK (restr K W st).tm t\/∃k b p,zD st.h k=some (.obj (b,p))/\¬k∈K/\zK st.tm t= .s (.map (some b))/\A t= .fm none p):VC F m A (zD (restr K W st).h) a w:=by
 obtain⟨⟨X,β,hX,H,Ht,z,hJ,hD⟩,nd,gs,hl⟩:=R;obtain⟨H',hv⟩:=H.restr K;refine⟨⟨X,_,hX,H',λt=>?_,⟨λk e I=>?_,z.size,z.keep,λk b n u=>?_,λk b n u=>?_,z.bs,z.os,z.tape,z.output⟩,λi hi=>?_,hD⟩,λk=>?_,gs,hl⟩
 .rcases ht t with e|⟨k,b,p,h1,h2,S,C⟩
  .rw[e,gG];split
   .exact hv _ _ (Ht t)
   .exact .fz _ _ (.bot _)
  .obtain⟨g1,x,g2,g3⟩:=H.ent k _ h1;have hc:=Ht t;rw[S]at hc;rw[C]
   have e:a.eval (.tmp t)= .map (some b):=by
    generalize a.eval (.tmp t)=c at hc
    cases hc with
    |fz _ _ hf=>cases hf;rfl
   rw[e];have u:(b,0)∈β k:=by rw[g1];exact zB1.2 Z
   refine .fz _ _ (.fm none p b x (λn h=>by cases h) (H.lt b (.inr ⟨k,0,u⟩)) (λhd=>?_) g2 g3)
   rcases hd with hx|⟨j,n,hj⟩
   .exact H.free k b 0 u hx
   ·(try dsimp only at hj)
    split at hj
    .rename_i E;rw[<-H.disj k j b 0 n u hj]at E;exact h2 E
    .simp at hj
 .have hk:k∈K:=by
   have:=zBk.1 hK k (F.hh k e I);simpa using this
  have h1:=z.knd k e I;have U:∀O,zD st.h k=some O->zD (wZ K (zD st.h)) k=some (kD K (zD st.h) O):=λO h2=>by rw[wH,zA5 hk,h2];rfl
  cases e with
  |dead=>exact h1
  |box cs=>obtain⟨M,h2⟩:=h1;exact⟨_,U _ h2⟩
  |obj cs=>obtain⟨M,h2⟩:=h1;exact⟨_,U _ h2⟩
  |arr sz xs sl=>obtain⟨Y,V,h2,S⟩:=h1;obtain⟨G,B,C,h5⟩:=gV K (zD st.h) sz Y V;exact⟨G,B,(U _ h2).trans (by rw[C]),by rw[h5];exact S⟩
 ·(try dsimp only at u)
  split at u
  .exact z.own k b n u
  .simp at u
 .have hk:k∈K:=by
   have:=zBk.1 hK k (F.hK k b n u);simpa using this
  (try dsimp only)
  rw[zA5 hk];exact z.pas k b n u
 .rw[hg,gG]at hi;split at hi
  .have h1:zK st.tm GS= .gh i:=GV hi;refine F.Jst i _ X w w _ (hJ i h1) (zBb _) (λ_ _ _=>rfl) (λb hb=>?_) (λb hb=>?_) Z Z Z
   .obtain⟨k,n,u⟩:=hb
    (try dsimp only at u)
    split at u
    .exact .inl ⟨k,n,u⟩
    .simp at u
   .obtain⟨k,n,u⟩:=hb;exact H'.lt b (.inr ⟨k,n,u⟩)
  .cases hi
 .show zD (wZ K (zD st.h)) k≠some .dead
  rw[wH];split
  .intro h;rw[zBp]at h;obtain⟨e,I,h2⟩:=h
   cases e with
   |dead=>exact nd k I
   |box cs=>cases h2
   |obj cs=>cases h2
   |arr a b c=>obtain⟨G,B,C,_⟩:=gV K (zD st.h) a b c;rw[C]at h2;cases h2
  .intro h;cases h
theorem wL.restr {F:Fr K0} {st:St} (R:wL F m st a w) (K u:List Nat) (z:K0.all (K.contains ·)=true):wL F m (restr K u st) a w:=
 R.restrM K u z Z λ_=> .inl Z
def bS (P:Program) (f:Nat):Prop:=∀(args:Array Value) (w:World),(callFunc f args).run P w= .ok (.enter f args) w
def JT (_:List AV) (_:List (Nat×xV)) (_:AV) (_:List (Nat×xV)):Prop:=True
def Sm {a:List AV} {u h1:List (Nat×xV)} {r:AV}:JT a u r h1:=trivial
structure xP (P:Program) (f:Nat) (args:List AV) (h0:List (Nat×xV)) (r:AV) (h1:List (Nat×xV)):Prop where
 able:bS P f
 nd:∀k,zD h1 k≠some .dead
 sim:∀(X:Nat->Prop) (w:World) (β:uP) (cargs:Array Value),cargs.size=args.length->jM X (zD h0) β w->(∀(i:Nat) v,args[i]? =some v->yK w (xT X β) (zD h0) β v (cargs.getD i undef))->
  Calls P f cargs w λe w'=>∃c β',e= .returned c/\xU X w (zD h0) β w' (zD h1) β'/\yK w' (xT X β') (zD h1) β' r c
def xV.nosl:xV->Bool
 | .box cs=>MB cs
 | .obj cs=>true
 | .arr _ xs _=>MB xs
 | .dead=>true
variable {d h0 h1:List (Nat×xV)}
def JU:List (Nat×xV)->Bool
 | []=>true
 |(_,e)::r=>e.nosl&&JU r
theorem BM:∀{h:List (Nat×xV)} {k:Nat} {e:xV},JU h=true->zD h k=some e->e.nosl=true
 | [],k,e,_,u=>by simp[zD]at u
 |(j,e0)::r,k,e,hn,u=>by
  simp[JU]at hn;rw[xK]at u;split at u
  .cases u;exact hn.1
  .exact BM hn.2 u
def xB (h:List (Nat×xV)):List Nat:=h.map (·.1)
theorem uJ:∀{h:List (Nat×xV)} {k:Nat} {e:xV},zD h k=some e->k∈xB h
 | [],k,e,u=>by simp[zD]at u
 |(j,e0)::r,k,e,u=>by
  rw[xK]at u;split at u
  .rename_i h;simp[xB,h]
  .have:=uJ u;simp[xB]at this⊢;exact .inr this
theorem bT:∀{h:List (Nat×xV)} {k:Nat},k∈xB h->∃e,zD h k=some e
 | [],k,hk=>by simp[xB]at hk
 |(j,e0)::r,k,hk=>by
  rw[xK];split
  .exact⟨_,rfl⟩
  .rename_i h;simp only[xB,zCo,zCt]at hk;exact bT (hk.resolve_left h)
theorem cD:∀{h:List (Nat×xV)} {k:Nat} {e:xV},zD h k=some e->∃p∈h,p.2=e
 | [],k,e,u=>by simp[zD]at u
 |(j,e0)::r,k,e,u=>by
  rw[xK]at u;split at u
  .cases u;exact⟨(j,e0),by simp,rfl⟩
  .obtain⟨p,z,h2⟩:=cD u;exact⟨p,by simp[z],h2⟩
def my (u:List Nat):xV->Bool
 | .box cs=>(jS cs).all (u.contains ·)
 | .obj cs=>true
 | .arr _ xs z=>bif z.nest then(jS xs).all (u.contains ·)else true
 | .dead=>true
def VD {x:AV} (h:x.cells[j]? =some v) (hk:k∈v.refs):k∈x.refs:=by
 cases x<;>first
  |(simp[AV.cells]at h;cases j<;>simp at h;subst h;exact hk)
  |exact wV h hk
def zAn (K:List Nat) (h:yT) (v:AV):AV:=ZG (kC K h v)
theorem fu {ρ:Operand->Value} {u:Array Value} (g:Operand->AV) (hc:u.size=ln caps) (h:(args.toList.map g++caps)[i]? =some v):
  (∃x,x∈args/\g x=v/\(args.map ρ++u).getD i undef=ρ x)\/∃j,caps[j]? =some v/\(args.map ρ++u).getD i undef=u.getD j undef:=by
 by_cases hi:i<args.size
 .rw[zB9 ML,zBe,zBp]at h;obtain⟨x,B,rfl⟩:=h;have z:args[i]? =some x:=by simpa using B
  refine .inl ⟨x,Array.mem_of_getElem? z,rfl,eG ?_⟩
  grind
 .rw[zCe qD]at h;refine .inr ⟨i-args.size,by simpa using h,?_⟩;have A:i-args.size<ln caps:=by simpa using (zBw.1 h).1
  apply eG
  grind [Array.getElem?_append_right,jO]
section
variable {P:Program} {st:St}
def Qm {Xc:Nat->Prop} {z:uP} (hh:∀k e,h k=some e->h' k=some e/\β' k=z k) (E:∀b,xT X β' b->b<w'.heap.size->xT Xc z b\/False) (hv:yK w' (xT Xc z) h z v c):yK w' (xT X β') h' β' v c:=by
 have C:∀{v c},xM w' (xT Xc z) v c->xM w' (xT X β') v c:=λA=>A.evo (zBb _) λb hb hd=>⟨rfl,λh'=>hd ((E b h' hb).resolve_right id)⟩
 induction hv with
 |fz v c A=>exact .fz _ _ (C A)
 |agg cs c hl h1 _ u=>exact .agg cs c hl h1 u
 |fn f caps c hl _ u=>exact .fn f caps c hl u
 |tup vs c hl _ u=>exact .tup vs c hl u
 |dref k off len c hk h1=>exact .dref _ _ _ _ (hh k _ hk).1 h1
 |dptr k i off c hk h1=>exact .dptr _ _ _ _ (hh k _ hk).1 h1
 |ref k off len sz xs st b n cap hk hb B hc I=>exact .ref k off len sz xs st b n cap (hh k _ hk).1 (by rw[(hh k _ hk).2];exact hb) B hc I
 |ref0 k off sz xs st a hk B=>exact .ref0 k off sz xs st a (hh k _ hk).1 B
 |pbox k off cs b n hk hb=>exact .pbox k off cs b n (hh k _ hk).1 (by rw[(hh k _ hk).2];exact hb)
 |parr k i off sz xs st b n hk hb hi G=>exact .parr k i off sz xs st b n (hh k _ hk).1 (by rw[(hh k _ hk).2];exact hb) hi G
def Lh {Xc:Nat->Prop} {A:uP} (hh:∀k e,h k=some e->h' k=some e/\β' k=A k) (hv:yK w' (xT Xc A) h A v c):v.nosl=true->yK w' (xT X β') h' β' v c:=by
 induction hv with
 |fz v c B=>exact λu=> .fz _ _ (B.free u)
 |agg cs c hl h1 _ z=>exact λu=> .agg cs c hl h1 λi v hv=>z i v hv (eU (by simpa [AV.nosl]using u) hv)
 |fn f caps c hl _ z=>exact λu=> .fn f caps c hl λi v hv=>z i v hv (eU (by simpa [AV.nosl]using u) hv)
 |tup vs c hl _ z=>exact λu=> .tup vs c hl λi v hv=>z i v hv (eU (by simpa [AV.nosl]using u) hv)
 |dref k off len c hk h1=>exact λ_=> .dref _ _ _ _ (hh k _ hk).1 h1
 |dptr k i off c hk h1=>exact λ_=> .dptr _ _ _ _ (hh k _ hk).1 h1
 |ref k off len sz xs st b n cap hk hb u hc E=>exact λ_=> .ref k off len sz xs st b n cap (hh k _ hk).1 (by rw[(hh k _ hk).2];exact hb) u hc E
 |ref0 k off sz xs st a hk u=>exact λ_=> .ref0 k off sz xs st a (hh k _ hk).1 u
 |pbox k off cs b n hk hb=>exact λ_=> .pbox k off cs b n (hh k _ hk).1 (by rw[(hh k _ hk).2];exact hb)
 |parr k i off sz xs st b n hk hb hi C=>exact λ_=> .parr k i off sz xs st b n (hh k _ hk).1 (by rw[(hh k _ hk).2];exact hb) hi C
theorem WC.lift {e:xV} (hb:β' k=β k) (hv:∀cs,e= .box cs->∀(i:Nat) v c,cs[i]? =some v->yK w D h β v c->yK w D' h' β' v c)
 (M:∀sz xs st,e= .arr sz xs st->∀(i:Nat) (x:AV) (j:Nat) v c,xs[i]? =some x->x.cells[j]? =some v->(xM w D v c->xM w D' v c)/\(st.nest=true->yK w D h β v c->yK w D' h' β' v c)) (H:WC w D h β k e):WC w D' h' β' k e:=by
 cases e with
 |dead=>exact hb.trans H
 |box cs=>
  obtain⟨b,c,G,h1,h2,C,z,E⟩:=H;exact⟨b,c,G,hb.trans h1,h2,C,z,λi v hi=>hv cs Z i v _ hi (E i v hi)⟩
 |obj cs=>
  exact⟨hb.trans H.1,H.2⟩
 | arr sz xs st=>
  obtain⟨h1,h2,C,z,E,f,A,I,R⟩:=H
  exact⟨h1,h2,by rwa [hb],z,by rwa [hb],f,λi x j v u hv=>by
   obtain⟨q1,O⟩:=M sz xs st Z i x j v (f i j) u hv
   cases B:st.nest with
   |true=>exact⟨O B (A.toV i x j v u hv),λh=>by cases h⟩
   |false=>exact⟨.fz _ _ (q1 (A.toF B i x j v u hv)),λ_=>q1 (A.toF B i x j v u hv)⟩,I,by rwa [hb]⟩
theorem jL {b4:Array Nat} {b3:List AV} {r:AV} (hc:xP P f b3 h0 r h1) (S:yX (zK st.tm) x= .fn f caps)
 (b7:(args.toList.map (yX (zK st.tm))++caps).map (kC (xB h0) (zD st.h))=b3) (cq:(xB h0).map (zD st.h)=(xB h0).map (zD h0)) (cm:h0.all (λp=>my (xB h0) p.2)=true)
 (cb:((jS (args.toList.map (yX (zK st.tm))++caps)).all ((xB h0).contains ·)||(r.nosl&&JU h1))=true):
  vA P st (.call ⟨.value x,args,b4⟩) r h1 (xB h0++jS (args.toList.map (yX (zK st.tm))++caps)) ((xB h1).filter λk=>!(xB h0).contains k):=by
 refine⟨?_⟩;intro X tm h hg I hn o a w β ho O Ht;obtain⟨d0,o0,y0,p0,f0,g0⟩:=o;dsimp only at ho;subst ho;have ca:=gZ Ht hg (x:=x) kS S
 obtain⟨cv,cp,a8,cn⟩:∃cv:Array Value,a.eval x= .func (.func f) #[] cv/\cv.size=ln caps/\∀(i:Nat) v,caps[i]? =some v->yK w (xT X β) h β v (cv.getD i undef):=by
  generalize a.eval x=cx at ca
  cases ca with
  |fz _ _ hf=>cases hf
  |fn _ _ c hl hh=>exact⟨c,rfl,hl,hh⟩
 have cf:(execOp a.eval ⟨d0,.call ⟨.value x,args,b4⟩,y0,p0,f0,g0⟩).run P w= .ok (.enter f (args.map a.eval++cv)) w:=by
  have cl:=hc.able (args.map a.eval++cv) w;simp[execOp,resolve,cp,Deferred.ofValue,invoke,cl]
 rw[cf]
 have hK:∀k,k∈xB h0->h k=zD h0 k:=λk hk=>by
  rw[I k (by simp[hk])];obtain⟨i,hi⟩:=zEo hk;have:=zBq (·[i]?) cq
  grind
 have bx:∀k,zD h0 k=none->¬k∈xB h0:=λk hk z=>by
  obtain⟨e,A⟩:=bT z
  grind
 let βc:uP:=λk=>if k∈xB h0 then β k else []
 have V:∀k,k∈xB h0->βc k=β k:=λk hk=>by simp[βc,hk]
 have cj:∀k,¬k∈xB h0->βc k=[]:=λk hk=>by simp[βc,hk]
 have ac:∀k b n,(b,n)∈βc k->k∈xB h0/\(b,n)∈β k:=λk b n z=>by
  by_cases hk:k∈xB h0
  .rw[V k hk]at z;exact⟨hk,z⟩
  .rw[cj k hk]at z;simp at z
 let B:Bool:=!(jS (args.toList.map (yX (zK st.tm))++caps)).all ((xB h0).contains ·)
 let Xc:Nat->Prop:=λb=>X b\/(B=false/\∃k n,¬k∈xB h0/\(b,n)∈β k)
 have a2:∀b,xT Xc βc b->xT X β b:=λb hd=>by
  rcases hd with(S|⟨_,k,n,_,z⟩)|⟨k,n,z⟩
  .exact .inl S
  .exact .inr ⟨k,n,z⟩
  .exact .inr ⟨k,n,(ac k b n z).2⟩
 have U:∀k e,zD h0 k=some e->my (xB h0) e=true:=λk e hk=>by
  obtain⟨p,hp,A⟩:=cD hk;have:=zBk.1 cm p hp;rw[A]at this;exact this
 have b9:∀{v c},yK w (xT X β) h β v c->(∀k,k∈v.refs->k∈xB h0\/∀b n,(b,n)∈β k->¬xT Xc βc b)->yK w (xT Xc βc) (zD h0) βc (kC (xB h0) h v) c:=λhv cu=>
  yK.fz0 O (λk hk e A=>by
   rw[hK k hk]at A
   cases e with
   |box cs=>exact⟨cs,A⟩
   |obj cs=>exact⟨cs,A⟩
   |arr sz xs fl=>exact⟨xs,fl,A,rfl⟩
   |dead=>exact A) V (λb _ hd h'=>hd (a2 b h')) hv cu
 have a7:∀{v c},yK w (xT X β) h β v c->(∀k,k∈v.refs->k∈xB h0)->yK w (xT Xc βc) (zD h0) βc v c:=by
  intro v c hv;have ef:∀{v c},xM w (xT X β) v c->xM w (xT Xc βc) v c:=λhf=>hf.evo (zBb _) λb _ hd=>⟨rfl,λh'=>hd (a2 b h')⟩
  induction hv with
  |fz v c hf=>exact λ_=> .fz _ _ (ef hf)
  |agg cs c hl h1 _ ih=>exact λI=> .agg cs c hl h1 λi v hv=>ih i v hv λk hk=>I k (by simpa [AV.refs]using wV hv hk)
  |fn f caps c hl _ ih=>exact λI=> .fn f caps c hl λi v hv=>ih i v hv λk hk=>I k (by simpa [AV.refs]using wV hv hk)
  |tup vs c hl _ ih=>exact λI=> .tup vs c hl λi v hv=>ih i v hv λk hk=>I k (by simpa [AV.refs]using wV hv hk)
  |dref k off len c hk h1=>exact λI=> .dref _ _ _ _ ((hK k (I k (by simp[AV.refs])))▸hk) h1
  |dptr k i off c hk h1=>exact λI=> .dptr _ _ _ _ ((hK k (I k (by simp[AV.refs])))▸hk) h1
  |ref k off len sz xs st b n cap hk hb hn hc hs=>exact λI=> .ref k off len sz xs st b n cap ((hK k (I k (by simp[AV.refs])))▸hk) (by rw[V k (I k (by simp[AV.refs]))];exact hb) hn hc hs
  |ref0 k off sz xs st a hk hn=>exact λI=> .ref0 k off sz xs st a ((hK k (I k (by simp[AV.refs])))▸hk) hn
  |pbox k off cs b n hk hb=>exact λI=> .pbox k off cs b n ((hK k (I k (by simp[AV.refs])))▸hk) (by rw[V k (I k (by simp[AV.refs]))];exact hb)
  |parr k i off sz xs st b n hk hb hi ho=>exact λI=> .parr k i off sz xs st b n ((hK k (I k (by simp[AV.refs])))▸hk) (by rw[V k (I k (by simp[AV.refs]))];exact hb) hi ho
 have Hc:jM Xc (zD h0) βc w:=by
  refine⟨λk e A=>?_,λk A=>cj k (bx k A),λk M b n C q1 q2=>O.disj _ _ _ _ _ (ac _ _ _ q1).2 (ac _ _ _ q2).2,λk b n z S=>?_,λb hd=>O.lt b (a2 b hd)⟩
  .have hk:=uJ A
   refine(O.ent k e ((hK k hk).trans A)).lift (V k hk) (λcs bk i v c hi hv=>a7 hv λj hj=>by
    have:=U k e A;rw[bk]at this
    simpa using zBk.1 this j (wV hi hj)) λsz xs fl b0 i x j v c hi hj=>⟨λhf=>hf.evo (zBb _) λb _ hd=>⟨rfl,λh'=>hd (a2 b h')⟩,λhn hv=>a7 hv λq hq=>by
    have:=U k e A;rw[b0]at this;simp only[my,hn,zCm]at this
    simpa using zBk.1 this q (wV hi (VD hj hq))⟩
  .obtain⟨hk,z⟩:=ac k b n z
   rcases S with S|⟨_,M,C,hk',au⟩
   .exact O.free k b n z S
   .exact hk' (O.disj k M b n C z au▸hk)
 have bf:∀(i:Nat) v,(args.toList.map (yX (zK st.tm))++caps)[i]? =some v->yK w (xT X β) h β v ((args.map a.eval++cv).getD i undef):=λi v hi=>by
  rcases fu (ρ:=a.eval) (yX (zK st.tm)) a8 hi with⟨y,hy,rfl,A⟩|⟨j,hj,A⟩
  .rw[A]
   exact gZ Ht hg (by
    simp only[Op.operands,Call.operands,Array.mem_append]
    exact .inr hy) Z
  .rw[A];exact cn j v hj
 have bz:∀(i:Nat) v,(args.toList.map (yX (zK st.tm))++caps)[i]? =some v->∀k,k∈v.refs->k∈xB h0\/∀b n,(b,n)∈β k->¬xT Xc βc b:=λi v hi k hk=>by
  by_cases Y:k∈xB h0
  .exact .inl Y
  .refine .inr λb n z hd=>?_
   have bu:B=true:=by
    cases hl:B with
    |true=>rfl
    |false=>
     simp only[B,Bool.not_eq_false']at hl;have:=zBk.1 hl k (wV hi hk);exact absurd Pf Y
   rcases hd with(S|⟨hf,_⟩)|⟨M,C,au⟩
   .exact O.free k b n z S
   .rw[bu]at hf;cases hf
   .obtain⟨q1,q2⟩:=ac M b C au;exact Y (O.disj k M b n C z q2▸q1)
 have bl:∀(i:Nat) v,(args.toList.map (yX (zK st.tm))++caps)[i]? =some v->kC (xB h0) (zD st.h) v=kC (xB h0) h v:=by
  have ck:∀v:AV,(∀k,k∈v.refs->h k=zD st.h k)->kC (xB h0) (zD st.h) v=kC (xB h0) h v:=by
   intro v
   refine AV.rec (motive_1:=λv=>(∀k,k∈v.refs->h k=zD st.h k)->kC (xB h0) (zD st.h) v=kC (xB h0) h v)
    (motive_2:=λcs=>(∀k,k∈jS cs->h k=zD st.h k)->vM (xB h0) (zD st.h) cs=vM (xB h0) h cs) ?_ ?_ ?_ ?_ ?_ ?_ ?_ ?_ ?_ ?_ ?_ ?_ ?_ ?_ v
   .exact λ_=>rfl
   .exact λ_ _=>rfl
   .exact λ_ _=>rfl
   .exact λcs ih hk=>by simp only[kC];rw[ih (by simpa [AV.refs]using hk)]
   .exact λ_ _ _ _=>rfl
   .exact λ_ _ _ _=>rfl
   .exact λk off len hk=>by simp only[kC];rw[hk k (by simp[AV.refs])]
   .exact λ_ _ _ _=>rfl
   .exact λ_ _ _ _ _=>rfl
   .exact λf cs ih hk=>by simp only[kC];rw[ih (by simpa [AV.refs]using hk)]
   .exact λcs ih hk=>by simp only[kC];rw[ih (by simpa [AV.refs]using hk)]
   .exact λ_ _ _=>rfl
   .exact λ_=>rfl
   .exact λv r cy cw hk=>by
     simp only[vM];rw[cy λk h=>hk k (by simp[jS,h]),cw λk h=>hk k (by simp[jS,h])]
  exact λi v hi=>ck v λk hk=>I k (by simp[wV hi hk])
 have cg:=hc.sim Xc w βc (args.map a.eval++cv) (by rw[<-b7];simp[a8]) Hc (λi v hi=>by
  rw[<-b7,zBe,zBp]at hi;obtain⟨u,hu,rfl⟩:=hi;rw[bl i u hu]
  exact b9 (bf i u hu) (bz i u hu))
 refine Calls.mono cg ?_;rintro e w' ⟨c,β1,A,G,hv⟩;refine⟨c,A,?_⟩;have cr:=G.lives Hc hc.nd
 let β':uP:=λk=>if(zD h1 k).isSome then β1 k else β k
 have a3:∀k e,zD h1 k=some e->β' k=β1 k:=λk e hk=>by simp[β',hk]
 have a4:∀k,zD h1 k=none->β' k=β k:=λk hk=>by simp[β',hk]
 have br:∀k,k∈xB h0->∃e,zD h1 k=some e:=λk hk=>by
  obtain⟨e,A⟩:=bT hk
  rcases G.key k e A with h2|h2
  .exact⟨_,h2⟩
  .cases e with
   |dead=>exact h2.elim
   |box cs=>exact⟨_,h2.1.choose_spec⟩
   |obj cs=>exact⟨_,h2.1.choose_spec⟩
   |arr sz xs st=>obtain⟨b2,st',W,_⟩:=h2.1;exact⟨_,W⟩
 have cc:∀k e,zD h1 k=some e->¬k∈xB h0->h k=none:=λk e hk Y=>hn k (by
  simp only[zEv,zDo,List.contains_eq_mem,zBi]
  exact⟨uJ hk,Y⟩)
 have a6:∀k e,zD h1 k=some e->over h1 h k=some e:=λk e hk=>by simp[over,hk]
 have b1:∀k,zD h1 k=none->over h1 h k=h k:=λk hk=>by simp[over,hk]
 have ap:∀k b n,(b,n)∈β' k->((∃e,zD h1 k=some e)/\(b,n)∈β1 k)\/(zD h1 k=none/\¬k∈xB h0/\(b,n)∈β k):=λk b n z=>by
  cases hk:zD h1 k with
  |none=>rw[a4 k hk]at z;exact .inr ⟨rfl,(λh2=>by obtain⟨e,A⟩:=br k h2;rw[hk]at A;cases A),z⟩
  |some e=>rw[a3 k e hk]at z;exact .inl ⟨⟨e,rfl⟩,z⟩
 have a1:∀k b n,(b,n)∈β1 k->(∃M C,M∈xB h0/\(b,C)∈β M)\/w.heap.size<=b:=λk b n z=>by
  rcases G.own k b n z with⟨M,C,h2⟩|h2
  .obtain⟨q1,q2⟩:=ac M b C h2;exact .inl ⟨M,C,q1,q2⟩
  .exact .inr h2
 have ax:∀b,b<w.heap.size->(∀k n,k∈xB h0->(b,n)∉β k)->w'.heap[b]? =w.heap[b]? :=λb hb hk=>G.keep b hb λk n z=>by
  obtain⟨q1,q2⟩:=ac k b n z;exact hk k n q1 q2
 have az:∀k b n,¬k∈xB h0->(b,n)∈β k->w'.heap[b]? =w.heap[b]? :=λk b n hk z=>ax b (O.lt b (.inr ⟨k,n,z⟩)) λM C hk' au=>hk (O.disj k M b n C z au▸hk')
 have b5:∀k b n,(b,n)∈β k->wO w' b=wO w b:=λk b n z=>by
  by_cases hk:k∈xB h0
  .exact G.bs k b n (by rw[V k hk];exact z)
  .unfold wO World.shape?;rw[az k b n hk z]
 have ba:∀k e,h k=some e->over h1 h k=some .dead\/match e with
   | .dead=>False
   | .box _=>(∃bd,over h1 h k=some (.box bd))/\∀b n,(b,n)∈β k->(b,n)∈β' k
   | .obj _=>(∃bd,over h1 h k=some (.obj bd))/\∀b n,(b,n)∈β k->(b,n)∈β' k
   | .arr sz xs _=>(∃b2 st',over h1 h k=some (.arr sz b2 st')/\xs.length<=ln b2)/\∀b n,(b,n)∈β k->∃C,n<=C/\(b,C)∈β' k:=λk e A=>by
  by_cases hk:k∈xB h0
  .have co:=(hK k hk)▸A;have:=G.key k e co;obtain⟨e1,ag⟩:=br k hk;rw[ag]at this;rw[a6 k e1 ag,a3 k e1 ag,<-V k hk];exact this
  .have cd:zD h1 k=none:=by
    cases h2:zD h1 k with
    |none=>rfl
    |some e1=>rw[cc k e1 h2 hk]at A;cases A
   rw[b1 k cd,a4 k cd];exact jB h β k e A
 have bb:∀k b n,(b,n)∈β' k->(∃M C,(b,C)∈β M)\/w.heap.size<=b:=λk b n z=>by
  rcases ap k b n z with⟨_,h2⟩|⟨_,_,h2⟩
  .rcases a1 k b n h2 with⟨M,C,_,W⟩|W
   .exact .inl ⟨M,C,W⟩
   .exact .inr W
  .exact .inl ⟨k,n,h2⟩
 have av:∀b,b<w.heap.size->(∀k n,(b,n)∉β k)->w'.heap[b]? =w.heap[b]? :=λb hb hk=>ax b hb λk n _=>hk k n
 have E:EZ w (xT X β) h β w' (xT X β') (over h1 h) β':=by
  refine⟨G.size,λb hb hd=>?_,b5,ba⟩;have q1:∀k n,(b,n)∉β k:=λk n z=>hd (.inr ⟨k,n,z⟩)
  refine⟨av b hb q1,?_⟩;rintro(S|⟨k,n,z⟩)
  .exact hd (.inl S)
  .rcases bb k b n z with⟨M,C,h2⟩|h2
   .exact q1 _ _ h2
   .omega
 have ch:∀k e,zD h1 k=some e->over h1 h k=some e/\β' k=β1 k:=λk e hk=>⟨a6 k e hk,a3 k e hk⟩
 have b6:B=false->∀b,xT X β' b->xT Xc β1 b:=λhl b hd=>by
  rcases hd with S|⟨k,n,z⟩
  .exact .inl (.inl S)
  .rcases ap k b n z with⟨_,h2⟩|⟨_,h2,W⟩
   .exact .inr ⟨k,n,h2⟩
   .exact .inl (.inr ⟨hl,k,n,h2,W⟩)
 have ar:B=false\/(r.nosl=true/\JU h1=true):=by
  rw[zDi]at cb
  rcases cb with h2|h2
  .left;show(!(_:Bool))=false;rw[h2];rfl
  .right;simpa using h2
 have R:∀{v c},(B=false\/v.nosl=true)->yK w' (xT Xc β1) (zD h1) β1 v c->yK w' (xT X β') (over h1 h) β' v c:=λhl hv=>by
  rcases hl with hl|hl
  .exact Qm (h':=over h1 h) ch (λb hd _=> .inl (b6 hl b hd)) hv
  .exact Lh ch hv hl
 have a5:∀{v c},(B=false\/v.nosl=true)->xM w' (xT Xc β1) v c->xM w' (xT X β') v c:=λhl hv=>by
  rcases hl with hl|hl
  .exact hv.evo (zBb _) λb _ hd=>⟨rfl,λh'=>hd (b6 hl b h')⟩
  .exact hv.free hl
 have HK:jM X (over h1 h) β' w':=by
  refine⟨λk e A=>?_,λk A=>?_,λk M b n C q1 q2=>?_,λk b n z S=>?_,λb hd=>?_⟩
  .cases hk:zD h1 k with
   |none=>
    rw[b1 k hk]at A;have Y:¬k∈xB h0:=λh2=>by obtain⟨e1,ag⟩:=br k h2;rw[hk]at ag;cases ag
    exact(O.ent k e A).evo E (a4 k hk) λb n z=>az k b n Y z
   | some e1=>
    rw[a6 k e1 hk]at A;obtain rfl:=zEg A;have ce:B=false\/e1.nosl=true:=ar.imp id λh2=>BM h2.2 hk
    refine(G.hok.ent k e1 hk).lift (a3 k e1 hk) (λcs bk i v c hi hv=>R (ce.imp id λh2=>eU (by rw[bk]at h2;exact h2) hi) hv) λsz xs st b0 i x j v c hi hj=>by
     have a9:B=false\/v.nosl=true:=ce.imp id λh2=>by
      have ci:x.nosl=true:=eU (by rw[b0]at h2;exact h2) hi
      cases x<;>first
       |(simp[AV.cells]at hj;cases j<;>simp at hj;subst hj;exact ci)
       |(exact eU (by simpa [AV.nosl,AV.cells]using ci) hj)
     exact⟨λhf=>a5 a9 hf,λ_ hv=>R a9 hv⟩
  .cases hk:zD h1 k with
   |none=>rw[b1 k hk]at A;rw[a4 k hk];exact O.off k A
   |some e1=>rw[a6 k e1 hk]at A;cases A
  .rcases ap k b n q1 with⟨_,h2⟩|⟨_,h2,W⟩<;>rcases ap M b C q2 with⟨_,h4⟩|⟨_,h4,h5⟩
   .exact G.hok.disj _ _ _ _ _ h2 h4
   .rcases a1 k b n h2 with⟨j,m,hj,z⟩|h6
    .exact absurd (O.disj j M b m C z h5▸hj) h4
    .have:=O.lt b (.inr ⟨M,C,h5⟩);omega
   .rcases a1 M b C h4 with⟨j,m,hj,z⟩|h6
    .exact absurd (O.disj j k b m n z W▸hj) h2
    .have:=O.lt b (.inr ⟨k,n,W⟩);omega
   .exact O.disj _ _ _ _ _ W h5
  .rcases ap k b n z with⟨_,h2⟩|⟨_,_,W⟩
   .exact G.hok.free k b n h2 (.inl S)
   .exact O.free k b n W S
  .rcases hd with S|⟨k,n,z⟩
   .exact zCb (O.lt b (.inl S)) G.size
   .rcases ap k b n z with⟨_,h2⟩|⟨_,_,W⟩
    .exact G.hok.lt b (.inr ⟨k,n,h2⟩)
    .exact zCb (O.lt b (.inr ⟨k,n,W⟩)) G.size
 exact⟨β',⟨G.size,av,bb,b5,ba,HK,G.os,G.tape,G.output⟩,R (ar.imp id (·.1)) hv⟩
def zL {C:Array Nat} {A:List AV} {r:AV} (hc:xP P f A h0 r h1) (R:yX (zK st.tm) x= .fn f caps)
 (B:(args.toList.map (yX (zK st.tm))++caps).map (zAn (xB h0) (zD st.h))=A) (G:(xB h0).map (zD st.h)=(xB h0).map (zD h0)) (E:h0.all (λp=>my (xB h0) p.2)=true)
 (I:((jS (args.toList.map (yX (zK st.tm))++caps)).all ((xB h0).contains ·)||(r.nosl&&JU h1))=true):
  vA P st (.call ⟨.value x,args,C⟩) r h1 (xB h0++jS (args.toList.map (yX (zK st.tm))++caps)) ((xB h1).filter λk=>!(xB h0).contains k):=
 jL (hc:=⟨hc.able,hc.nd,λX w β z hl H M=>hc.sim X w β z (by rw[hl,<-B];simp) H λi v hi=>by
  rw[<-B,zBe,zBp]at hi;obtain⟨u,O,rfl⟩:=hi
  exact(M i _ (by rw[zBe,O];rfl)).wk⟩) R Z G E I
end
section
section ops
variable {P:Program} {K0:List Nat} {F:Fr K0} {m:Nat} {ops:Array Oper} {rest:List Oper} {Q:St->Prop} {tm:List (Nat×AV)} {h:List (Nat×xV)}
def du {st:St} (u:Q st):GU P F m ops [] st Q:=λ_ _ H=>⟨rfl,st,u,H⟩
def Pm {o:Oper} {st:St} {st':St} (C:o.guard=none) (I:vA P st o.op v d r nw) (G:∀k,k∈nw->zD st.h k=none) (hd:uB d=true) (E:∀t,o.dst=some t->t<m)
 (B:∀t,zK st'.tm t=if o.dst=some t then v else zK st.tm t) (hh:zD st'.h=over d (zD st.h)) (hk:GU P F m ops rest st' Q):GU P F m ops (o::rest) st Q:=λa w H=>
 wpListIn_plain C λK A=>I.rel H (λ_ _=>rfl) (λ_ _=>rfl) G hd E λz w' u=>A _ _ (hk z w' (by
  have e1:zK st'.tm=λt=>if o.dst=some t then v else zK st.tm t:=funext B
  unfold wL;rw[e1,hh]
  exact u))
section
variable {op:Op} {ty:Nat} {pos:String} {after:Array Edge} {t:Nat} {v:AV} {r nw:List Nat}
end
def XZ (ops:Array Oper) (j:Nat):Option Nat:=(ops[j]?).bind (·.dst)
def gw (v:Value) (b:Bool):Bool:=match v with
 | .bool c=>c==b
 |_=>false
def aN {j:Nat} {v:Value} (z:o.guard=some (j,b)) (A:XZ ops j=some t) (hv:a.eval (.tmp t)=v):Region.wanted o (yielded ops a.tmps)=gw v b:=by
 subst hv;simp only[Region.wanted,z,yielded,show(ops[j]?).bind (·.dst)=some t from A,Option.bind_some,Act.eval,zB4]
 cases h:a.tmps[t]? with
 |none=>simp[undef,gw]
 |some u=>cases u<;>simp[gw]
def BN {st:St} (H:wL F m st a w) (hv:zK st.tm t= .s c):a.eval (.tmp t)=c:=by
 obtain⟨⟨_,β,_,_,u,_⟩,_⟩:=H;have:=u t;rw[hv]at this;exact this.s_inv
def O2 {d:Option Nat} {j:Nat} {st:St} (u:XZ ops j=some t) (hv:zK st.tm t= .s (.bool b)) (hk:GU P F m ops (⟨d,op,ty,pos,after,none⟩::rest) st Q):
  GU P F m ops (⟨d,op,ty,pos,after,some (j,b)⟩::rest) st Q:=λa w H=>by
 have z:=aN (o:=⟨d,op,ty,pos,after,some (j,b)⟩) Z u (BN H hv);have:=hk a w H;unfold wpListIn at this⊢;rw[zA5 (by rw[z];simp[gw])];rw[zA5 (by simp[Region.wanted])]at this;exact this
theorem VC.bot {tm:Nat->AV} {h:yT} (H:VC F m tm h a w) (u:Option Nat) (I:∀t,u=some t->t<m):VC F m (λt=>if u=some t then .s undef else tm t) h (a.put u undef) w:=by
 obtain⟨⟨X,β,G,z,A,B,E,C⟩,M,gs,hl⟩:=H;exact VC.put G z A B E C gs hl (xU.refl z) M (.fz _ _ (.s _)) u I
def pu {d:Nat} {j:Nat} (z:XZ ops j=some t) (hv:zK tm t= .s c) (hc:gw c b=false) (u:Nat.blt d m=true) (hk:GU P F m ops rest ⟨(d,.s undef)::tm,h⟩ Q):
  GU P F m ops (⟨some d,op,ty,pos,after,some (j,b)⟩::rest) ⟨tm,h⟩ Q:=λa w H=>by
 have A:=aN (o:=⟨some d,op,ty,pos,after,some (j,b)⟩) Z z (BN H hv);unfold wpListIn;rw[Os (by rw[A,hc];simp)];refine⟨λ_ _=>trivial,hk _ _ ?_⟩;have:=VC.bot H (some d) (λj hj=>by cases hj;exact zBo u)
 have e1:zK ((d,.s undef)::tm)=λt=>if some d=some t then AV.s undef else zK tm t:=funext λt=>by rw[xF];simp[eq_comm]
 unfold wL;rw[e1];exact this
theorem Om {st:St} {t:Nat} {c u:Bool} (hv:zK st.tm t= .s (.bool c)) (hc:c=u) (hk:GU P F m ops l ⟨(t,.s (.bool u))::st.tm,st.h⟩ Q):GU P F m ops l st Q:=λa w H=>hk a w (by
 subst hc
 have e1:zK ((t,.s (.bool c))::st.tm)=zK st.tm:=funext λj=>by
  rw[xF];split
  .rename_i h;subst h;exact hv.symm
  .rfl
 unfold wL;dsimp only;rw[e1]
 exact H)
theorem Kh {st:St} {t:Nat} {c:Bool} (hv:zK st.tm t= .s (.bool c)) (h1:c=true->GU P F m ops l ⟨(t,.s (.bool true))::st.tm,st.h⟩ Q) (h2:c=false->GU P F m ops l ⟨(t,.s (.bool false))::st.tm,st.h⟩ Q):GU P F m ops l st Q:=by grind [zK,GU,Om]
end ops
section code
variable {P:Program} {K0:List Nat} {F:Fr K0} {m:Nat} {Q:Exit->St->Prop} {st:St}
def kY {c:Code} (K u:List Nat) (z:K0.all (K.contains ·)=true) {st':St} (A:restr K u st=st') (h:uG P F m c st' Q):uG P F m c st Q:=⟨λa w H=>h.run a w (A▸wL.restr H K u z)⟩
def wS {c:Code} (I:Nat->St->Prop) (n:Nat) (K A:List Nat) (E:K0.all (K.contains ·)=true) (h0:I n (restr K A st)) (u:∀n st,I n st->uG P F m c st (λe s=>match e with
  | .normal=>∃z,z<n/\I z (restr K A s)
  |e=>Q e s)):uG P F m (.loop c) st Q:=by
 refine kY K A E Z ⟨λa w H=>?_⟩;refine QX (λn a w=>∃st,I n st/\wL F m st a w) n ⟨_,h0,H⟩ λn a w ⟨st,hI,hR⟩=>?_
 refine Code.wpIn_mono (λe a' w' ⟨s,h1,h2⟩=>?_) ((u n st hI).run a w hR)
 cases e with
 |normal=>
  obtain⟨z,C,B⟩:=h1;exact⟨z,C,_,B,wL.restr h2 K A E⟩
 |_=>exact⟨s,h1,h2⟩
end code
def KB (TT:List TI) (st:St):List ResultVar->Option (List AV)
 | []=>some []
 | .tmp t::r=>(KB TT st r).map (zK st.tm t:: ·)
 | .cell a T::r=>match zK st.tm a with
  | .ptr k 0 off=>match zD st.h k,TT[T]? with
   |some (.box cs),some ti=>match Yb ti.d.agg ti.size cs off with
    |some v=>(KB TT st r).map (v:: ·)
    |none=>none
   |_,_=>none
  |_=>none
def BO:List AV->AV
 | [v]=>v
 |vs=> .tup vs
def Nm (tmps:Array Value):ResultVar->Sem Value
 | .tmp t=>pure (tmps.getD t undef)
 | .cell b t=>do loadVar t (<-asAddr (tmps.getD b undef))
theorem ME (E:uW P TT) {st:St} (H:jM X (zD st.h) β w) (z:∀t,yK w (xT X β) (zD st.h) β (zK st.tm t) (a.eval (.tmp t))):
  ∀(l:List ResultVar) (vs:List AV),KB TT st l=some vs->∃cs:List Value,(l.mapM (Nm a.tmps)).run P w= .ok cs w/\cs.length=ln vs/\
   ∀(i:Nat) v,vs[i]? =some v->yK w (xT X β) (zD st.h) β v (cs.getD i undef)
 | [],vs,h=>by cases h;exact⟨[],rfl,rfl,λi v hv=>by simp at hv⟩
 | .tmp t::r,vs,h=>by
  simp only[KB,zBp]at h;obtain⟨u,h1,rfl⟩:=h;obtain⟨cs,h2,B,C⟩:=ME E H z r u h1;refine⟨a.tmps.getD t undef::cs,by simp only[zGs,Nm,Sem.run_bind,Sem.run_pure,Result.andThen_ok,h2],by simp[B],λi v hv=>?_⟩
  cases i with
  |zero=>simp at hv;subst hv;exact z t
  |succ i=>simpa using C i v BV
 | .cell b T::r,vs,h=>by
  simp only[KB]at h;split at h
  .rename_i k off hb;split at h
   .rename_i cs ti hk hT;split at h
    .rename_i v hv;rw[zBp]at h;obtain⟨u,h1,rfl⟩:=h;obtain⟨A,h2,B,C⟩:=ME E H z r u h1;have M:=z b;rw[hb]at M;obtain⟨O,hc,_,S⟩:=OD H hk M;obtain⟨c,I,R⟩:=FK E hT S hv;rw[zCn]at I;have G:a.tmps.getD b undef= .pointer (some ⟨O,off,none⟩):=hc;refine⟨c::A,by simp only[zGs,Nm,Sem.run_bind,G,asAddr,Sem.run_pure,Result.andThen_ok,I,h2],by simp[B],λi v hv=>?_⟩
     cases i with
     |zero=>simp at hv;subst hv;exact R
     |succ i=>simpa using C i v BV
    .cases h
   .cases h
  .cases h
def UT:Nat->List AV->List (Nat×AV)
 |_,[]=>[]
 |i,v::r=>(i,v)::UT (i+1) r
theorem VE:∀(l:List AV) (i t:Nat),zK (UT i l) t=if i<=t then l.getD (t-i) .bot else .bot
 | [],i,t=>by simp[UT,zK]
 | v::r,i,t=>by
  rw[UT,xF,VE r];by_cases h:t=i
  .subst h;simp
  .rw[Os h];by_cases h2:i<=t
   .rw[zA5 h2,zA5 (by omega),show t-i=(t-(i+1))+1 by omega];simp
   .rw[Os h2,Os (by omega)]
def Fin (TT:List TI) (u:List ResultVar) (h0:List (Nat×xV)) (r:AV) (h1:List (Nat×xV)) (e:Exit) (st:St):Prop:=
 (e= .normal\/e= .ret)/\∃vs K,KB TT st u=some vs/\(xB h0).all (K.contains ·)=true/\(r=wY K (zD st.h) (BO vs)\/r=ZG (wY K (zD st.h) (BO vs)))/\zD h1=zD (wZ K (zD st.h))
def zI {u:List ResultVar} {r:AV} {st:St} {vs:List AV} (K:List Nat) (h:KB TT st u=some vs) (z:(xB h0).all (K.contains ·)=true) (A:ZG (wY K (zD st.h) (BO vs))=r) (hh:wZ K (zD st.h)=h1):
 Fin TT u h0 r h1 .ret st:=⟨.inr Z,vs,K,h,z,.inr A.symm,by rw[hh]⟩
def zP {u:List ResultVar} {r:AV} {st:St} {vs:List AV} (K:List Nat) (h:KB TT st u=some vs) (z:(xB h0).all (K.contains ·)=true) (A:wY K (zD st.h) (BO vs)=r) (hh:wZ K (zD st.h)=h1):
 Fin TT u h0 r h1 .ret st:=⟨.inr Z,vs,K,h,z,.inl A.symm,by rw[hh]⟩
theorem xM.less (h:∀b,D' b->D b) (hv:xM w D v c):xM w D' v c:=
 hv.evo (zBb _) λb _ hd=>⟨rfl,λh'=>hd (h b h')⟩
theorem yK.less {X':Nat->Prop} (u:∀b,X' b->X b) (hv:yK w (xT X β) h β v c):yK w (xT X' β) h β v c:=
 hv.evo ⟨zBb _,λb _ hd=>⟨rfl,λh'=>hd (h'.imp (u b) id)⟩,λ_ _ _ _=>rfl,jB h β⟩
theorem jM.less {X':Nat->Prop} (u:∀b,X' b->X b) (H:jM X h β w):jM X' h β w:=
 ⟨λk e z=>(H.ent k e z).evo ⟨zBb _,λb _ hd=>⟨rfl,λh'=>hd (h'.imp (u b) id)⟩,λ_ _ _ _=>rfl,jB h β⟩ rfl λ_ _ _=>rfl,H.off,H.disj,λk b n A B=>H.free k b n A (u b B),λb hd=>H.lt b (hd.imp (u b) id)⟩
def UU (H:jM X h β w) (z:w.heap.size<=w'.heap.size) (hk:∀b,b<w.heap.size->¬X b->w'.heap[b]? =w.heap[b]?):EZ w (xT X β) h β w' (xT X β) h β:=
 ⟨z,λb hb hd=>⟨hk b hb λA=>hd (.inl A),hd⟩,λk b n u=>by
  unfold wO World.shape?
  rw[hk b (H.lt b (.inr ⟨k,n,u⟩)) (H.free k b n u)],jB h β⟩
theorem jM.turn (H:jM X h β w) (z:w.heap.size<=w'.heap.size) (hk:∀b,b<w.heap.size->¬X b->w'.heap[b]? =w.heap[b]?):jM X h β w':=
 ⟨λk e A=>(H.ent k e A).evo (UU H z hk) Z λb n u=>hk b (H.lt b (.inr ⟨k,n,u⟩)) (H.free k b n u),H.off,H.disj,H.free,λb hd=>zCb (H.lt b hd) z⟩
theorem UV {fn:Func} {tmps:Array Value} {R:Ending->World->Prop}:∀(u:List Nat) (w:World),u.Nodup->(∀b,b∈u->w.heap[b]? =some (.deferred (some [])))->
  (∀w',w'.heap.size=w.heap.size->(∀b,¬b∈u->w'.heap[b]? =w.heap[b]?)->w'.os=w.os->w'.tape=w.tape->w'.output=w.output->∃v,(results fn tmps).run P w'= .ok v w'/\R (.returned v) w')->
  LeavesInM Fence.wide 0 P fn tmps R (u.map λb=>{target:= .collected b,args:= #[]}) .returning w
 | [],w,_,_,h=>h w Z (λ_ _=>rfl) Z Z Z
 |b::u,w,E,hb,h=>by
  have z:=List.nodup_cons.1 E;refine⟨by simp,.inl ⟨b,w.putObj b (.deferred none),rfl,run_takeDeferred (hb b zV),UV u _ z.2 (λc hc=>?_) (λw' h1 h2 A B C=>?_)⟩⟩
  .rw[World.putObj_heap_other (show c≠b from λe=>z.1 (by rw[<-e];exact hc))];exact hb c (by simp[hc])
  .refine h w' (by rw[h1];simp) (λc hc=>?_) A B C;simp at hc;rw[h2 c hc.2,World.putObj_heap_other hc.1]
theorem VF (hP:uW P TT) {fn:Func} {body:Code} {args:List AV} {r:AV} (hf:P.funcs[f]? =some fn) (hb:fn.body=some body) (au:bS P f) (S:Nat.ble (ln args) fn.ntmps=true)
 (az:uB  h0=true) (a1:uB h1=true) (h:∀F:Fr (xB h0),F.ro=none/\F.it=false->uG P F fn.ntmps body ⟨UT 0 args,h0⟩ (Fin TT fn.results.toList h0 r h1)) (bf:Nat.ble fn.ntmps GS=true:=by rfl):xP P f args h0 r h1:=by
  refine⟨au,λk=>qI a1,λX w β B b0 H V=>(callsIn_wide (n:=0)).1 ?_⟩;have S:=zBo S
  let F:Fr (xB h0):=⟨X,w,β,zD h0,λk b n u=>by
    cases hk:zD h0 k with
    |none=>rw[H.off k hk]at u;simp at u
    |some e=>exact uJ hk,λk e E=>uJ E,none,false,λ_=>False,λ_ _ _ _=>True,λ_ _ _ _ _ _ _ _ _ _ _ _ _ _=>trivial⟩
  refine callsIn_of_wp_marks (F:=Fence.wide) (n:=0) hf hb trivial (Code.wpIn_mono (λe U w1 q=>?_) ((h F ⟨rfl,rfl⟩).run _ w ⟨⟨X,β,⟨λ_ h=>h,λ_ h=> .inl h⟩,H,λt=>?_,⟨λk e E=>?_,zBb _,λ_ _ _ _=>rfl,λk b n u=> .inl ⟨k,n,u⟩,λk b n u=>⟨n,zBb _,u⟩,λ_ _ _ _=>rfl,rfl,rfl,rfl⟩,λ_ _=>trivial,[],rfl,λ_=>rfl,zF4,λb hb=>by simp at hb⟩,λk=>qI az,zBo bf,by simp;omega⟩)) Z
  · obtain ⟨st,⟨E,vs,K,hv,hK,hr,hh⟩,R⟩:=q;obtain⟨⟨X2,β2,⟨ax,_⟩,G,ar,z,_,bs,bd,_,ba,W⟩,b4,_,b3⟩:=R
    have av:LeavesInM Fence.wide 0 P fn U.tmps (λe w'=>∃c β',e= .returned c/\xU X w (zD h0) β w' (zD h1) β'/\yK w' (xT X β') (zD h1) β' r c) U.defers .returning w1:=by
     rw[bd];refine UV bs w1 ba (λb hb=>(W b hb).2.2) λw' sz kp o1 o2 o3=>?_
     have ap:∀b,b<w1.heap.size->¬X2 b->w'.heap[b]? =w1.heap[b]? :=λb _ hx=>kp b λu=>hx (W b u).1
     have H2:=G.turn (zDc sz.symm) ap;have a7:=λt=>(ar t).evo (UU G (zDc sz.symm) ap)
     have C:fF F (zD st.h) β2 w':=⟨z.knd,by rw[sz];exact z.size,λb hb hi hn=>by rw[kp b λu=>by have:=(W b u).2.1;omega];exact z.keep b hb hi hn,z.own,z.pas,λk b n u=>by
      rw[<-z.bs k b n u];obtain⟨n',_,A⟩:=z.pas k b n u;unfold wO World.shape?
      rw[ap b (G.lt b (.inr ⟨k,n',A⟩)) (G.free k b n' A)],o1.trans z.os,o2.trans z.tape,o3.trans z.output⟩
     obtain⟨cs,q1,q2,q3⟩:=ME hP H2 a7 _ _ hv;obtain⟨a6,a5⟩:=H2.restr K;have H3:=a6.less ax;have a4:=λv c hv=>(a5 v c hv).less ax
     have a3:∃c,(results fn U.tmps).run P w'= .ok c w'/\yK w' (xT X2 β2) (zD st.h) β2 (BO vs) c:=by
       have u:(fn.results.mapM (Nm U.tmps)).run P w'= .ok cs.toArray w':=by
         rw[<-Array.toArray_toList (xs:=fn.results),List.mapM_toArray];simp only[Sem.run_map,q1,Result.andThen_ok]
       have a2:(results fn U.tmps).run P w'= .ok (if h:cs.toArray.size=1 then cs.toArray[0]else .tuple cs.toArray) w':=by
         show(fn.results.mapM (Nm U.tmps) >>= λvs=>pure (if h:vs.size=1 then vs[0]else .tuple vs)).run P w'=_
         rw[Sem.run_bind,u];rfl
       refine⟨_,a2,?_⟩;by_cases h1:ln cs=1
       · rw[zGk ID]
         match cs,vs,h1,q2,q3 with
         | [c],[v],_,_,q3=>exact q3 0 v Z
       · rw[dif_neg ID]
         have bl:BO vs= .tup vs:=by
           match vs,q2 with
           | [],_=>rfl
           | [v],q2=>exact absurd q2 h1
           |_::_::_,_=>rfl
         rw[bl];exact .tup vs _ (by simpa using q2) λi v hi=>by simpa [pi]using q3 i v hi
     obtain⟨c,Y,I⟩:=a3
     have ac:∃c β',Ending.returned c= .returned c/\(results fn U.tmps).run P w'= .ok c w'/\xU X w (zD h0) β w' (zD h1) β'/\yK w' (xT X β') (zD h1) β' r c:=by
       refine⟨c,λk=>if k∈K then β2 k else [],rfl,Y,?_,?_⟩
       · rw [hh];refine⟨C.size,λb hb hn=>C.keep b hb (λhf=>hf) hn,λk b n u=>?_,C.bs,λk e E=> .inr ?_,H3,C.os,C.tape,C.output⟩
         · (try dsimp only at u)
           split at u
           · exact C.own k b n u
           · simp at u
         · have O:k∈K:=by
             have:=zBk.1 hK k (uJ E);simpa using this
           have h1:=C.knd k e E;have ag:∀e',zD st.h k=some e'->zD (wZ K (zD st.h)) k=some (kD K (zD st.h) e'):=λe' h2=>by rw[wH,zA5 O,h2];rfl
           cases e with
           |dead=>exact h1
           | box bz=>
             obtain⟨a8,h2⟩:=h1;refine⟨⟨_,ag _ h2⟩,λb n u=>?_⟩
             (try dsimp only)
             rw[zA5 O];obtain⟨n',bk,A⟩:=C.pas k b n u;obtain⟨b2,_,_,e2,_⟩:=H2.ent k _ h2;obtain⟨b1,_,_,e1,_⟩:=H.ent k _ E;rw[e1]at u;rw[e2]at A⊢;simp at u A⊢;exact⟨A.1,u.2⟩
           | obj cs=>
             obtain⟨a8,h2⟩:=h1;refine⟨⟨_,ag _ h2⟩,λb n u=>?_⟩
             (try dsimp only)
             rw[zA5 O];obtain⟨n',bk,A⟩:=C.pas k b n u;have e2:=(H2.ent k _ h2).1;have e1:=(H.ent k _ E).1;rw[e1]at u;rw[e2]at A⊢;simp at u A⊢;exact⟨A.1,u.2⟩
           | arr sz xs sl=>
             obtain⟨bu,br,h2,h3⟩:=h1;obtain⟨bx,a9,h4,h5⟩:=gV K (zD st.h) sz bu br;refine⟨⟨bx,a9,(ag _ h2).trans (by rw[h4]),by rw[h5];exact h3⟩,λb n u=>?_⟩
             (try dsimp only)
             rw[zA5 O];exact C.pas k b n u
       · rw[hh]
         rcases hr with rfl|rfl
         · exact a4 _ _ I
         · exact(a4 _ _ I).wk
     obtain⟨c,β',_,Y,I,bb⟩:=ac;exact⟨c,Y,c,β',rfl,I,bb⟩
    rcases E with rfl|rfl
    all_goals exact av
  · show yK w (xT X β) (zD h0) β (zK (UT 0 args) t) _
    rw[VE,zA5 (zBn _),zF0];by_cases ht:t<ln args
    · have h2:args[t]? =some (args.getD t .bot):=by simp[pi,ht]
      have:=V t _ h2
      have e:Act.eval {tmps:=B++Array.replicate (fn.ntmps-B.size) undef,defers:=[]} (.tmp t)=B.getD t undef:=by
        simp only[Act.eval,zB4];rw[zC8 (by omega)]
      rw[e];exact this
    · have:args.getD t .bot= .bot:=by simp[pi,zCh (by omega:ln args<=t)]
      rw[this];exact .fz _ _ (.bot _)
  · have M:zD h0 k=some e:=E
    cases e with
    |dead=>exact absurd M (qI az)
    |box cs=>exact⟨cs,M⟩
    |obj cs=>exact⟨cs,M⟩
    |arr sz xs sl=>exact⟨xs,sl,M,zBb _⟩
end
def dE (l:Array Bool) (i:Nat):Bool:=l.getD i false
def binds (e:Edge):Bool:=Region.binds .any e
def ou (ops:Array Oper):Bool:=(pb ops.size).all λi=>((ops[i]?).map λo=>o.after.all λe=>!binds e||decide (e.on<i)).getD false
def nu (T:List Nat):List Edge->Nat->Nat
 | [],m=>m
 |e::r,m=>nu T r (bif binds e then m ||| (2 ^ e.on ||| T.getD e.on 0)else m)
def ry:List Oper->List Nat->List Nat
 | [],T=>T
 |o::r,T=>ry r (T++[nu T o.after.toList 0])
def MF (ops:List Oper):List Nat:=ry ops []
def okT (ops:Array Oper) (T:List Nat):Bool:=
 (pb ops.size).all λi=>((ops[i]?).map λo=>Nat.beq (T.getD i 0) (nu T o.after.toList 0)).getD false
def mu (T:List Nat) (i j:Nat):Bool:=(T.getD i 0).testBit j
theorem BP (T:List Nat) (j:Nat):∀(l:List Edge) (m:Nat),(nu T l m).testBit j=true->m.testBit j=true\/∃e,e∈l/\binds e=true/\(e.on=j\/mu T e.on j=true)
 | [],m,h=> .inl h
 | e::r,m,h=>by
  rcases BP T j r _ h with h1|⟨e',h1,h2,h3⟩
  .cases hb:binds e with
   |false=>rw[hb]at h1;exact .inl h1
   |true=>
    rw[hb,zCm,Nat.testBit_or,Nat.testBit_or,Nat.testBit_two_pow,zDi,zDi]at h1
    rcases h1 with h1|h1|h1
    .exact .inl h1
    .exact .inr ⟨e,by simp,hb,.inl ID⟩
    .exact .inr ⟨e,by simp,hb,.inr h1⟩
  .exact .inr ⟨e',by simp[h1],h2,h3⟩
theorem UW (l:Array Bool) (i j:Nat) (hi:i<l.size):dE (l.setIfInBounds i true) j=if j=i then true else dE l j:=by
 unfold dE;by_cases e:j=i
 .simp_all [dE]
 .rw[Os e];simp only[zB4,Array.getElem?_setIfInBounds_ne (Ne.symm e)]
def Hr (p:Nat->Bool):Nat->Nat
 |0=>0
 |k+1=>Hr p k+if p k then 1 else 0
theorem Jh {p q:Nat->Bool} (n:Nat) (h:∀i,i<n->p i=q i):Hr p n=Hr q n:=by
 induction n with
 |zero=>rfl
 |succ n u=>unfold Hr;rw[u λi hi=>h i (by omega),h n (by omega)]
def M2 (p:Nat->Bool) (n:Nat):Hr p n<=n:=by
 induction n with
 |zero=>exact zBb _
 |succ n u=>unfold Hr;split<;>omega
theorem Wf {p q:Nat->Bool} (n i:Nat) (hi:i<n) (u:p i=false) (h:∀j,j≠i->q j=p j):Hr q n=Hr p n+if q i then 1 else 0:=by
 induction n with
 |zero=>omega
 |succ n z=>
  grind [Hr,Jh]
section
variable {ops:Array Oper} {T:List Nat}
theorem GW (A:ou ops=true) (hT:okT ops T=true) {l:Array Bool} (hd:∀i o,ops[i]? =some o->dE l i=true->∀e∈o.after,binds e=true->dE l e.on=true):
  ∀(n i:Nat) (o:Oper),i<n->ops[i]? =some o->(∀e∈o.after,binds e=true->dE l e.on=true)->∀j,mu T i j=true->dE l j=true:=by
 intro n
 induction n with
 |zero=>intro i o h;omega
 | succ n I=>
  intro i o C z B j hj;have hi:i<ops.size:=(zDj.1 z).1;have h1:=zBk.1 hT i (zBu.2 hi);simp only[z,zC0,zDr]at h1;unfold mu at hj;rw[zBz h1]at hj
  rcases BP T j _ _ hj with h2|⟨x,hx,hb,h2⟩
  .simp at h2
  have u:x∈o.after:=by simpa using hx
  have hl:=B _ u hb
  rcases h2 with h2|h2
  .grind
  .have E:=zBk.1 A i (zBu.2 hi);obtain⟨y,G,rfl⟩:=Array.getElem_of_mem u
   grind
theorem bU {l:Array Bool} (z:l.size=ops.size) (h:i∈Region.ready .any ops l):∃o,ops[i]? =some o/\dE l i=false/\∀e∈o.after,binds e=true->dE l e.on=true:=by
 unfold Region.ready at h;rw[zEv,zBu]at h;obtain⟨hi,h⟩:=h;have u:ops[i]? =some ops[i]:=by simp[hi]
 simp only[u,zC0,zDr,zBg,zDo,Array.all_eq_true,zDi]at h
 grind [dE,binds,Array.getD_eq_getD_getElem?,Array.getElem?_eq_getElem,Array.getElem_of_mem]
def Ih (B:ou ops=true) {l:Array Bool} (M:l.size=ops.size) (h:Region.ready .any ops l=[]):∀n i,i<n->i<ops.size->dE l i=true:=by
 intro n
 induction n with
 |zero=>intro i h;omega
 | succ n I=>
  intro i C hi
  cases hl:dE l i with
  |true=>rfl
  | false=>
   exfalso
   have A:i∈Region.ready .any ops l:=by
    unfold Region.ready;rw[zEv,zBu];refine⟨hi,?_⟩;have E:ops[i]? =some ops[i]:=by simp[hi]
    have u:=zBk.1 B i (zBu.2 hi);simp only[E,zC0,zDr,zBg,zDo,Array.all_eq_true,zDi,zBc]at u⊢;refine⟨?_,λx G=>?_⟩
    .unfold dE at hl;simp only[zB4]at hl⊢;rw[zFg (by omega)]at hl⊢;simpa using hl
    .rcases u x G with z|z
     .exact .inl z
     .exact .inr (I _ (by omega) (by omega))
   rw[h]at A;cases A
end
structure MG where
 on:Bool
 v:AV
 d:List (Nat×xV)
 r:List Nat
 nw:List Nat
def St.app (st:St) (u:Option Nat) (v:AV) (d:List (Nat×xV)):St:=⟨match u with
 |some t=>(t,v)::st.tm
 |none=>st.tm,d++st.h⟩
variable {st st':St}
def gOf (ops:Array Oper) (o:Oper):List Nat:=match o.guard with
 |some (j,_)=>(XZ ops j).toList
 |none=>[]
def JW (P:Program) (m:Nat) (ops:Array Oper) (o:Oper) (st:St) (e:MG):Prop:=
 uB e.d=true/\(∀t,o.dst=some t->t<m)/\(∀k,k∈e.nw->zD st.h k=none)/\
 (e.on=true->vA P st o.op e.v e.d e.r e.nw)/\(e.on=false->e.v= .s undef/\e.d=[])/\
 match o.guard with
  |none=>e.on=true
  |some (j,b)=>∃t c,XZ ops j=some t/\zK st.tm t= .s c/\e.on=gw c b
def Tr (P:Program) (m:Nat) (ops:Array Oper):List Oper->St->List MG->St->Prop
 | [],st,[],st'=>st=st'
 |o::l,st,e::u,st'=>JW P m ops o st e/\Tr P m ops l (st.app o.dst e.v e.d) u st'
 |_,_,_,_=>False
def jG (L:Nat->Bool):Nat->List (Option Nat×MG)->St->St
 |_,[],st=>st
 |i,(dst,e)::r,st=>jG L (i+1) r (bif L i then st.app dst e.v e.d else st)
def UX (st:St) (u:Option Nat) (v:AV) (d:List (Nat×xV)) (t:Nat):zK (st.app u v d).tm t=if u=some t then v else zK st.tm t:=by
 cases u with
 |none=>simp[St.app]
 |some j=>simp only[St.app,xF,zCu];by_cases h:t=j<;>simp[h,eq_comm]
def YX (st:St) (u:Option Nat) (v:AV) (d:List (Nat×xV)) (k:Nat):zD (st.app u v d).h k=over d (zD st.h) k:=by
 show zD (d++st.h) k=_
 rw[vF]
theorem UY {u:Nat->Bool} :∀(r:List (Option Nat×MG)) (i:Nat) (st st':St),zK st.tm t=zK st'.tm t->(∀(j:Nat) p,r[j]? =some p->p.1=some t->L (i+j)=u (i+j))->
  zK (jG L i r st).tm t=zK (jG u i r st').tm t
 | [],_,_,_,h,_=>h
 | (dst,e)::r,i,st,st',h,hl=>by
  refine UY r (i+1) _ _ ?_ λj p z h1=>by have:=hl (j+1) p (by simpa using z) h1;rwa [show i+1+j=i+(j+1) by omega]
  by_cases hd:dst=some t
  .have:=hl 0 (dst,e) Z hd;simp only[zDw]at this;rw[this];cases u i
   .exact h
   .simp only[zCm,UX,hd,zE8]
  .cases L i<;>cases u i<;>simp only[zCm,zC7,UX,Os hd,h]
def BQ (hk:¬k∈xB d):over d h k=h k:=by
 unfold over
 cases u:zD d k with
 |none=>rfl
 |some e=>exact absurd (uJ u) hk
def Vf (hk:k∈xB d):over d h k=over d h' k:=by
 obtain⟨e,u⟩:=bT hk;simp[over,u]
theorem YY {u:Nat->Bool} :∀(r:List (Option Nat×MG)) (i:Nat) (st st':St),zD st.h k=zD st'.h k->(∀(j:Nat) p,r[j]? =some p->k∈xB p.2.d->L (i+j)=u (i+j))->
  zD (jG L i r st).h k=zD (jG u i r st').h k
 | [],_,_,_,h,_=>h
 | (dst,e)::r,i,st,st',h,hl=>by
  refine YY r (i+1) _ _ ?_ λj p z h1=>by have:=hl (j+1) p (by simpa using z) h1;rwa [show i+1+j=i+(j+1) by omega]
  by_cases hd:k∈xB e.d
  .have:=hl 0 (dst,e) Z hd;simp only[zDw]at this;rw[this];cases u i
   .exact h
   .simp only[zCm,YX];exact Vf hd
  .cases L i<;>cases u i<;>simp only[zCm,zC7,YX,BQ hd,h]
theorem Uf :∀(l:List Oper) (u:List MG) (i:Nat) (st st':St),Tr P m ops l st u st'->(∀j,j<ln l->L (i+j)=true)->jG L i (l.zipWith (λo e=>(o.dst,e)) u) st=st'
 | [],[],_,_,_,h,_=>h
 |o::l,e::u,i,st,st',h,hl=>by
  simp only[zEi,jG];rw[show L i=true from hl 0 zV];exact Uf l u (i+1) _ st' h.2 λj hj=>by have:=hl (j+1) (by simpa using hj);rwa [show i+1+j=i+(j+1) by omega]
 | [],_::_,_,_,_,h,_=>h.elim
 |_::_,[],_,_,_,h,_=>h.elim
theorem UZ :∀(r:List (Option Nat×MG)) (i:Nat) (st:St),(∀j,j<ln r->L (i+j)=false)->jG L i r st=st
 | [],_,_,_=>rfl
 |(dst,e)::r,i,st,h=>by
  unfold jG;rw[show L i=false from h 0 zV];exact UZ r (i+1) st λj hj=>by have:=h (j+1) (by simpa using hj);rwa [show i+1+j=i+(j+1) by omega]
theorem Tr.len :∀{l:List Oper} {u:List MG} {st st':St},Tr P m ops l st u st'->ln u=ln l
 | [],[],_,_,_=>rfl
 |o::l,e::u,_,_,h=>by simp[Tr.len h.2]
 | [],_::_,_,_,h=>h.elim
 |_::_,[],_,_,h=>h.elim
theorem Tr.at :∀{l:List Oper} {u:List MG} {st st':St} (i k:Nat) (o:Oper) (e:MG),Tr P m ops l st u st'->l[i]? =some o->u[i]? =some e->
  JW P m ops o (jG (λj=>decide (j<k+i)) k (l.zipWith (λo e=>(o.dst,e)) u) st) e/\
   jG (λj=>decide (j<k+i+1)) k (l.zipWith (λo e=>(o.dst,e)) u) st=(jG (λj=>decide (j<k+i)) k (l.zipWith (λo e=>(o.dst,e)) u) st).app o.dst e.v e.d
 | A::l,z::u,st,st',0,k,o,e,h,h1,h2=>by
  simp at h1 h2;subst h1 h2;have q1:jG (λj=>decide (j<k+0)) k ((A::l).zipWith (λo e=>(o.dst,e)) (z::u)) st=st:=UZ _ _ _ λj _=>by simp
  have C:jG (λj=>decide (j<k+0+1)) k ((A::l).zipWith (λo e=>(o.dst,e)) (z::u)) st=st.app A.dst z.v z.d:=by
   simp only[zEi,jG,show decide (k<k+0+1)=true by simp,zCm];exact UZ _ _ _ λj _=>by simp
  rw[q1,C];exact⟨h.1,rfl⟩
 |A::l,z::u,st,st',i+1,k,o,e,h,h1,h2=>by
  have B:=Tr.at i (k+1) o e h.2 ID IE;simp only[zEi,jG,show decide (k<k+(i+1))=true by simp,show decide (k<k+(i+1)+1)=true by simp;omega,zCm];rw[show k+(i+1)=k+1+i by omega];exact B
 | [],[],_,_,_,_,_,_,_,h1,_=>by simp at h1
 | [],_::_,_,_,_,_,_,_,h,_,_=>h.elim
 |_::_,[],_,_,_,_,_,_,h,_,_=>h.elim
structure FP where
 on:Bool
 w:List Nat
 r:List Nat
def MG.fp (e:MG):FP:=⟨e.on,xB e.d++e.nw,e.r⟩
def Hh (ops:Array Oper) (o:Oper):List Nat:=gOf ops o++fO o.op
def cT (ops:Array Oper) (B z:Oper) (A u:FP):Bool:=
 (match B.dst with|some t=>(Hh ops z).contains t||z.dst==some t|none=>false)||(match z.dst with|some t=>(Hh ops B).contains t|none=>false)||
  A.w.any (λk=>u.w.contains k||u.r.contains k)||u.w.any (λk=>A.r.contains k)
def JX (l:List Oper) (T:List Nat) (fs:List FP):Bool:=
 ou l.toArray&&okT l.toArray T&&(pb (ln l)).all λj=>(pb j).all λi=>match l[i]?,l[j]?,fs[i]?,fs[j]? with
  |some A,some B,some u,some z=>mu T j i|| !cT l.toArray A B u z
  |_,_,_,_=>false
section
variable {P:Program} {K0:List Nat} {F:Fr K0} {m:Nat}
theorem VC.congr {u:Nat->AV} (R:VC F m tm h a w) (e1:∀t,u t=tm t) (z:∀k,h' k=h k):VC F m u h' a w:=by
 obtain rfl:u=tm:=funext e1;obtain rfl:h'=h:=funext z;exact R
def VG (l:List Oper) (n:Nat) (T:List Nat) (fs:List FP):Bool:=
 ou l.toArray&&okT l.toArray T&&((pb n).all λj=>(pb j).all λi=>match l[i]?,l[j]?,fs[i]?,fs[j]? with
  |some A,some B,some u,some z=>mu T j i|| !cT l.toArray A B u z
  |_,_,_,_=>false)&&Nat.ble n (ln l)&&((pb (ln l)).all λj=>Nat.blt j n||(pb j).all λi=>mu T j i)
theorem JY {id:Nat} (n:Nat) {es:List MG} {Q:Exit->St->Prop} (hm:P.follows .mixedOrders=true) (hT:Tr P m l.toArray (l.take n) st es st') (hC:VG l n (MF l) (es.map MG.fp)=true) (hB:GU P F m l.toArray (l.drop n) st' (Q .normal)):
  uG P F m (.region id l.toArray true) st Q:=by
 refine⟨?_⟩;intro a w H;unfold VG at hC;rw[zBg,zBg,zBg,zBg,zBk,zBk]at hC;obtain⟨⟨⟨⟨hA,a7⟩,hX⟩,a9⟩,hY⟩:=hC;have a9:=zBo a9;generalize MF l=T at *;have br:=hT.len;rw[zBv,Nat.min_eq_left a9]at br
 have a6:∀(i:Nat) o,(l.take n)[i]? =some o->l[i]? =some o/\i<n:=λi o h=>by
  have h1:i<n:=by
   have:=(zBw.1 h).1;rw[zBv]at this;omega
  rw[List.getElem?_take_of_lt h1]at h;exact⟨h,h1⟩
 have b2:∀i j,n<=j->j<ln l->i<j->mu T j i=true:=λi j h1 h2 U=>by
  have:=hY j (zBu.2 h2);rw[show Nat.blt j n=false by cases hb:Nat.blt j n with|false=>rfl|true=>exact absurd (zBo hb) (by omega),zDk,zBk]at this;exact this i (zBu.2 U)
 let R:=(l.take n).zipWith (λo e=>(o.dst,e)) es
 have hR:∀(j:Nat) p,R[j]? =some p->∃o e,(l.take n)[j]? =some o/\es[j]? =some e/\p=(o.dst,e):=λj p W=>by
  simp only[R,List.getElem?_zipWith]at W
  cases I:(l.take n)[j]? with
  |none=>simp[I]at W
  |some o=>cases he:es[j]? with
   |none=>simp[I,he]at W
   |some e=>simp[I,he]at W;exact⟨o,e,rfl,rfl,W.symm⟩
 have b3:∀i j oi C ei z,i<j->(l.take n)[i]? =some oi->(l.take n)[j]? =some C->es[i]? =some ei->es[j]? =some z->cT l.toArray oi C ei.fp z.fp=true->mu T j i=true:=λi j oi C ei z bs h1 h2 U h4 h5=>by
  have:=zBk.1 (hX j (zBu.2 (a6 j C h2).2)) i (zBu.2 bs);simp only[(a6 i oi h1).1,(a6 j C h2).1,zBe,U,h4,zC0,h5,zGf,zGg]at this;simpa using this
 let QQ:Exit->Act->World->Prop:=λe M w'=>e= .normal/\∃s,Q .normal s/\wL F m s M w'
 let J0:Array Bool->Prop:=λL=>L.size=l.toArray.size/\(∀i o,l.toArray[i]? =some o->dE L i=true->∀e∈o.after,binds e=true->dE L e.on=true)
 let JA:Array Bool->Act->World->Prop:=λL a w=>J0 L/\(∀i,n<=i->dE L i=false)/\VC F m (zK (jG (dE L) 0 R st).tm) (zD (jG (dE L) 0 R st).h) a w
 let JB:Array Bool->Act->World->Prop:=λL a w=>J0 L/\∃k,(∀i,dE L i=decide (i<n+k))/\n+k<=ln l/\wpListIn (BL F.ro) 0 P l.toArray QQ (l.drop (n+k)) a w
 let J:Array Bool->Act->World->Prop:=λL a w=>JA L a w\/JB L a w
 have a1:∀L a w,J L a w->J0 L:=λL a w h=>h.elim (λh=>h.1) (λh=>h.1)
 have b1:∀L a w,JA L a w->(∀i,i<n->dE L i=true)->JB L a w:=λL a w B V=>by
  refine⟨B.1,0,λi=>?_,a9,?_⟩
  .by_cases h:i<n
   .rw[V i h];simp[h]
   .rw[B.2.1 i (by omega)];simp[h]
  .have:jG (dE L) 0 R st=st':=Uf (l.take n) es 0 st st' hT λj hj=>by rw[zCn];exact V j (by rw[zBv]at hj;omega)
   have h2:=B.2.2;rw[this]at h2;exact hB a w h2
 have bf:∀L a w,(∀i,i<l.toArray.size->dE L i=true)->J L a w->QQ .normal a w:=λL a w V B=>by
  have cf:JB L a w:=B.elim (λh=>b1 L a w h λi hi=>V i qD) (λh=>h);obtain⟨_,k,h1,h2,U⟩:=cf
  have hk:n+k=ln l:=by
   by_cases h:n+k<ln l
   .have h4:=V (n+k) MJ;rw[h1]at h4;simp at h4
   .omega
  rw[hk,zFa]at U;exact U
 have bb:∀(L:Array Bool) i o,J0 L->l.toArray[i]? =some o->(∀e∈o.after,binds e=true->dE L e.on=true)->J0 (L.setIfInBounds i true):=λL i o h0 I A=>by
  obtain⟨hs,ar⟩:=h0;have E:i<l.toArray.size:=(zDj.1 I).1
  have O:∀j,dE (L.setIfInBounds i true) j=if j=i then true else dE L j:=λj=>UW L i j (by rw[hs];exact E)
  refine⟨by simpa using hs,λj C av a5 ed b4 hb=>?_⟩;rw[O]at a5⊢;by_cases u:j=i
  .subst u;rw[I]at av;cases av;split
   .rfl
   .exact A ed b4 hb
  .rw[Os u]at a5;split
   .rfl
   .exact ar j C av a5 ed b4 hb
 have ap:∀L a w i,JB L a w->i∈Region.ready .any l.toArray L->∀K:Act->World->Prop,(∀M w',J (L.setIfInBounds i true) M w'->K M w')->wpOpIn (BL F.ro) 0 P l.toArray QQ i K a w:=by
  intro L a w i B hi K hK;obtain⟨h0,k,h1,h2,U⟩:=B;obtain⟨o,I,hl,A⟩:=bU h0.1 hi;have E:i<l.toArray.size:=(zDj.1 I).1;have a4:i<ln l:=by simpa using E
  have cl:n+k<=i:=by
   rw[h1]at hl;simpa using hl
  have cg:i=n+k:=by
   by_cases h:n+k<i
   .have h5:=GW hA a7 h0.2 (i+1) i o (by omega) I A (n+k) (b2 _ _ (by omega) a4 h);rw[h1]at h5;simp at h5
   .omega
  subst cg;rw[zFh a4]at U
  have au:l[n+k]'a4=o:=by
   have:=(zDj.1 I).2;simpa using this
  rw[au]at U
  have O:∀j,dE (L.setIfInBounds (n+k) true) j=if j=n+k then true else dE L j:=λj=>UW L _ j (by rw[h0.1];exact E)
  have b7:∀M w',wpListIn (BL F.ro) 0 P l.toArray QQ (l.drop (n+k+1)) M w'->K M w':=λM w' h=>by
   refine hK M w' (.inr ⟨bb L _ o h0 I A,k+1,λj=>?_,by omega,h⟩);rw[O,h1];by_cases hj:j=n+k
   .rw[zA5 hj];simp;omega
   .rw[Os hj];by_cases ch:j<n+k
    all_goals(simp[ch];omega)
  unfold wpOpIn;rw[I];dsimp only;unfold wpListIn at U;split
  .rename_i hw;rw[zA5 hw]at U;exact Oper.wpIn_mono b7 U
  .rename_i hw;rw[Os hw]at U;exact⟨U.1,b7 _ _ U.2⟩
 have bx:∀L a w i,J L a w->i∈Region.ready .any l.toArray L->∀K:Act->World->Prop,(∀M w',J (L.setIfInBounds i true) M w'->K M w')->wpOpIn (BL F.ro) 0 P l.toArray QQ i K a w:=by
  intro L a w i B hi K hK
  rcases B with B|B
  case inr=>exact ap L a w i B hi K hK
  by_cases bl:i<n
  case neg=>
   refine ap L a w i (b1 L a w B λj hj=>?_) hi K hK;obtain⟨o,I,hl,A⟩:=bU B.1.1 hi;have E:i<l.toArray.size:=(zDj.1 I).1;exact GW hA a7 B.1.2 (i+1) i o (by omega) I A j (b2 _ _ (by omega) (by simpa using E) (by omega))
  obtain⟨cd,b5,a2⟩:=B;obtain⟨hs,ar⟩:=cd;obtain⟨o,I,hl,A⟩:=bU hs hi;have E:i<l.toArray.size:=(zDj.1 I).1;have au:(l.take n)[i]? =some o:=by rw[List.getElem?_take_of_lt bl];simpa using I
  obtain⟨e,he⟩:∃e,es[i]? =some e:=⟨es[i]'(by rw[br];exact bl),by simp⟩;have a8:=GW hA a7 ar (i+1) i o (by omega) I A
  have bu:∀j,j<l.toArray.size->mu T j i=true->dE L j=false:=λj hj bs=>by
   cases a5:dE L j with
   |false=>rfl
   |true=>
    have av:l.toArray[j]? =some l.toArray[j]:=by simp[hj]
    have:=GW hA a7 ar (j+1) j _ (by omega) av (ar j _ av a5) i bs;rw[hl]at this;cases this
  have ag:∀j C z,(l.take n)[j]? =some C->es[j]? =some z->j≠i->(j<i->cT l.toArray C o z.fp e.fp=true)->(i<j->cT l.toArray o C e.fp z.fp=true)->dE L j=decide (j<i):=λj C z h1 h2 ci U h4=>by
   rcases Nat.lt_or_gt_of_ne ci with h|h
   .rw[a8 j (b3 j i C o z e h h1 au h2 he (U h))];simp[h]
   .rw[bu j (by have:=a6 j C h1;simp;omega) (b3 i j o C e z h au h1 he h2 (h4 h))];simp;omega
  obtain⟨⟨s1,s2,s3,s4,s5,s6⟩,ac⟩:=hT.at i 0 o e au he;simp only[zCn]at s3 s4 s6 ac
  let Li:Nat->Bool:=λj=>decide (j<i)
  have cc:∀t,t∈Hh l.toArray o->zK (jG (dE L) 0 R st).tm t=zK (jG Li 0 R st).tm t:=λt ht=>UY R 0 st st Z λj p W hd=>by
   obtain⟨C,z,h1,h2,rfl⟩:=hR j p W;rw[zCn];by_cases u:j=i
   .subst u;simp only[Li];rw[hl];simp
   .refine ag j C z h1 h2 u (λ_=>?_) λ_=>?_
    .unfold cT;simp only[show C.dst=some t from hd,zDu.2 ht,zDt]
    .unfold cT;simp only[show C.dst=some t from hd,zDu.2 ht,zDt,zEt]
  have cb:∀k,k∈e.r\/k∈e.nw\/k∈xB e.d->zD (jG (dE L) 0 R st).h k=zD (jG Li 0 R st).h k:=λk hk=>YY R 0 st st Z λj p W hd=>by
   obtain⟨C,z,h1,h2,rfl⟩:=hR j p W;rw[zCn];by_cases u:j=i
   .subst u;simp only[Li];rw[hl];simp
   .have az:k∈z.fp.w:=by simp only[MG.fp,zBs];exact .inl hd
    have b6:k∈e.fp.w\/k∈e.fp.r:=by
     simp only[MG.fp,zBs]
     rcases hk with h|h|h
     .exact .inr h
     .exact .inl (.inr h)
     .exact .inl (.inl h)
    refine ag j C z h1 h2 u (λ_=>?_) λ_=>?_
    .have:z.fp.w.any (λk=>e.fp.w.contains k||e.fp.r.contains k)=true:=zCx.2 ⟨k,az,by simp only[zDi,zDu];exact b6⟩;unfold cT;simp only[this,zEt,zDt]
    .rcases b6 with h|h
     .have:e.fp.w.any (λk=>z.fp.w.contains k||z.fp.r.contains k)=true:=zCx.2 ⟨k,h,by simp only[zDi,zDu];exact .inl az⟩;unfold cT;simp only[this,zEt,zDt]
     .have:z.fp.w.any (λk=>e.fp.r.contains k)=true:=zCx.2 ⟨k,az,zDu.2 h⟩;unfold cT;simp only[this,zEt]
  have O:∀j,dE (L.setIfInBounds i true) j=if j=i then true else dE L j:=λj=>UW L i j (by rw[hs];exact E)
  have bz:∀t,zK (jG (dE (L.setIfInBounds i true)) 0 R st).tm t=if o.dst=some t then e.v else zK (jG (dE L) 0 R st).tm t:=λt=>by
   by_cases hd:o.dst=some t
   .rw[zA5 hd]
    have h1:zK (jG (dE (L.setIfInBounds i true)) 0 R st).tm t=zK (jG (λj=>decide (j<i+1)) 0 R st).tm t:=UY R 0 st st Z λj p W Y=>by
     obtain⟨C,z,h1,h2,rfl⟩:=hR j p W;rw[zCn,O];by_cases u:j=i
     .subst u;simp
     .have bd:C.dst=some t:=Y;rw[Os u,ag j C z h1 h2 u (λ_=>by unfold cT;simp[bd,hd]) (λ_=>by unfold cT;simp[bd,hd])];by_cases h:j<i
      all_goals(simp[h];omega)
    rw[h1,show(jG (λj=>decide (j<i+1)) 0 R st)=_ from ac,UX,zA5 hd]
   .rw[Os hd]
    exact UY R 0 st st Z λj p W Y=>by
     obtain⟨C,z,h1,h2,rfl⟩:=hR j p W;rw[zCn,O];by_cases u:j=i
     .subst u;rw[au]at h1;cases h1;exact absurd Y hd
     .rw[Os u]
  have ba:∀k,zD (jG (dE (L.setIfInBounds i true)) 0 R st).h k=over e.d (zD (jG (dE L) 0 R st).h) k:=λk=>by
   by_cases hd:k∈xB e.d
   .have h1:zD (jG (dE (L.setIfInBounds i true)) 0 R st).h k=zD (jG (λj=>decide (j<i+1)) 0 R st).h k:=YY R 0 st st Z λj p W Y=>by
     obtain⟨C,z,h1,h2,rfl⟩:=hR j p W;rw[zCn,O];by_cases u:j=i
     .subst u;simp
     .have az:k∈z.fp.w:=by simp only[MG.fp,zBs];exact .inl Y
      have b9:k∈e.fp.w:=by simp only[MG.fp,zBs];exact .inl hd
      have q1:z.fp.w.any (λk=>e.fp.w.contains k||e.fp.r.contains k)=true:=zCx.2 ⟨k,az,by simp only[zDi,zDu];exact .inl b9⟩;have q2:e.fp.w.any (λk=>z.fp.w.contains k||z.fp.r.contains k)=true:=zCx.2 ⟨k,b9,by simp only[zDi,zDu];exact .inl az⟩;rw[Os u,ag j C z h1 h2 u (λ_=>by unfold cT;simp only[q1,zEt,zDt]) (λ_=>by unfold cT;simp only[q2,zEt,zDt])];by_cases h:j<i
      all_goals(simp[h];omega)
    rw[h1,show(jG (λj=>decide (j<i+1)) 0 R st)=_ from ac,YX];exact Vf hd
   .rw[BQ hd]
    exact YY R 0 st st Z λj p W Y=>by
     obtain⟨C,z,h1,h2,rfl⟩:=hR j p W;rw[zCn,O];by_cases u:j=i
     .subst u;rw[he]at h2;cases h2;exact absurd Y hd
     .rw[Os u]
  have bk:∀M w',VC F m (λt=>if o.dst=some t then e.v else zK (jG (dE L) 0 R st).tm t) (over e.d (zD (jG (dE L) 0 R st).h)) M w'->K M w':=λM w' h=>by
   refine hK M w' (.inl ⟨bb L i o ⟨hs,ar⟩ I A,λj hj=>?_,h.congr bz ba⟩);rw[O,Os (by omega)];exact b5 j hj
  have a3:e.on=true->o.wpIn (BL F.ro) 0 P a w K QQ:=λax=>
   (s4 ax).rel a2 (λt ht=>cc t (by unfold Hh;simp[ht])) (λk hk=>cb k (.inl hk)) (λk hk=>by rw[cb k (.inr (.inl hk))];exact s3 k hk) s1 s2 bk
  unfold wpOpIn;rw[I];dsimp only
  cases hg:o.guard with
  |none=>
   rw[hg]at s6;rw[zA5 (by simp[Region.wanted,hg])];exact a3 s6
  | some jb=>
   obtain⟨j,b⟩:=jb;rw[hg]at s6;obtain⟨t,c,g1,g2,g3⟩:=s6;have cj:t∈Hh l.toArray o:=by unfold Hh gOf;simp[hg,g1]
   have hv:a.eval (.tmp t)=c:=by
    obtain⟨⟨_,β,_,_,Ht,_⟩,_⟩:=a2;have:=Ht t;rw[cc t cj,g2]at this;exact this.s_inv
   have hw:=aN hg g1 hv
   cases ax:e.on with
   |true=>
    rw[zA5 (by rw[hw,<-g3,ax])];exact a3 ax
   |false=>
    rw[Os (by rw[hw,<-g3,ax];simp)];obtain⟨v1,v2⟩:=s5 ax;refine⟨λ_ _=>trivial,bk _ _ ?_⟩;rw[v1,v2];exact VC.bot a2 o.dst s2
 have ca:∀(S:Nat) (L:Array Bool) (a:Act) (w:World),Hr (λi=>!dE L i) l.toArray.size<=S->J L a w->wpAnyIn (BL F.ro) 0 P .any l.toArray QQ S L a w:=by
  intro S
  induction S with
  | zero=>
   intro L a w hf B
   have b0:∀i,i<l.toArray.size->dE L i=true:=by
    intro i hi
    cases hl:dE L i with
    |true=>rfl
    |false=>
     exfalso;have h:=Wf (p:=λj=>!dE L j&&j != i) (q:=λj=>!dE L j) l.toArray.size i hi zV (λj hj=>by simp[hj]);simp[hl]at h;simp at hf;omega
   refine⟨?_,bf L a w b0 B⟩
   cases hr:Region.ready .any l.toArray L with
   |nil=>rfl
   |cons i ck=>
    obtain⟨o,I,hl,_⟩:=bU (a1 _ _ _ B).1 (i:=i) (by rw[hr];simp);rw[b0 i (zDj.1 I).1]at hl;cases hl
  |succ S ih=>
   intro L a w hf B;refine⟨λhr=>bf L a w (λi hi=>Ih hA (a1 _ _ _ B).1 hr (i+1) i (by omega) hi) B,λi hi=>?_⟩;refine bx L a w i B hi _ (λM w' ce=>ih _ _ _ ?_ ce);obtain⟨o,I,hl,_⟩:=bU (a1 _ _ _ B).1 hi;have E:i<l.toArray.size:=(zDj.1 I).1;have h:=Wf (p:=λj=>!dE (L.setIfInBounds i true) j) (q:=λj=>!dE L j) l.toArray.size i E (by simp[UW L i i (by rw[(a1 _ _ _ B).1];exact E)]) (λj hj=>by simp[UW L i j (by rw[(a1 _ _ _ B).1];exact E),hj]);simp[hl]at h;simp at hf⊢;omega
 refine Code.wpIn_mono (λe M w' ⟨he,s,h1,h2⟩=>⟨s,by rw[he];exact h1,h2⟩) (wpIn_region_any hm (ca _ _ _ _ (M2 _ _) ?_))
 have hf:∀i,dE (Array.replicate l.toArray.size false) i=false:=by
  intro i;unfold dE;simp only[zB4,Array.getElem?_replicate]
  split<;>rfl
 refine .inl ⟨⟨by simp,λi o _ hl=>?_⟩,λi _=>hf i,?_⟩
 .rw[hf]at hl;cases hl
 .rw[UZ R 0 st λj _=>hf _];obtain⟨⟨X,β,hX,HH,Ht,KK,B,hD⟩,nd,gs,hl⟩:=H;have G:=xU.drew HH (w.drawn+1);exact⟨⟨X,β,hX,G.hok,λt=>(Ht t).evo G.evo,KK.goes G nd (G.lives HH nd),λi hi=>F.go G (B i hi),hD.goes HH G⟩,nd,gs,hl⟩
theorem Mm {id:Nat} {u:List MG} {Q:Exit->St->Prop} (A:P.follows .mixedOrders=true) (hT:Tr P m l.toArray l st u st') (z:JX l (MF l) (u.map MG.fp)=true) (B:Q .normal st'):
  uG P F m (.region id l.toArray true) st Q:=by
 refine JY (ln l) A (by rw[zA8];exact hT) ?_ (by rw[zFa];exact λa w H=>⟨rfl,_,B,H⟩);unfold VG;unfold JX at z;rw[z,zBh,zBg,zBk];refine⟨zEn (zBb _),λj hj=>?_⟩;rw[show Nat.blt j (ln l)=true from zEn (zBu.1 hj),zDt]
end
def Ic (h:(pb (ln TT)).map (λt=>an P t)=TT.map some):uW P TT:=λt ti u=>by
 have hl:=(zBw.1 u).1;have:=zBq (·[t]?) h;simp only[zBe,u,zC0,zC1 hl]at this;simpa using this
def H7 (P:Program) (F:Fr K0) (m:Nat) (ops:Array Oper):Bool->List Oper->St->List FP->(List FP->St->Prop)->Prop
 |false,l,st,_,Q=>GU P F m ops l st (Q [])
 |true,l,st,fs,Q=>∃u st',Tr P m ops l st u st'/\Q ((u.map MG.fp).reverse++fs) st'
structure yP (P:Program) {K0:List Nat} (F:Fr K0) (m:Nat) (ops:Array Oper) (dr:Bool) (l:List Oper) (st:St) (fs:List FP) (Q:List FP->St->Prop):Prop where
 run:H7 P F m ops dr l st fs Q
section
variable {P:Program} {K0:List Nat} {F:Fr K0} {m:Nat} {ops:Array Oper} {rest:List Oper} {Q:List FP->St->Prop} {tm:List (Nat×AV)} {h:List (Nat×xV)} {dr:Bool} {fs:List FP}
def kR {u:St->Prop} (z:u st):yP P F m ops false [] st fs (λ_ s=>u s):=⟨du z⟩
def VH {u:St->Prop} (hc:JX l (MF l) fs.reverse=true) (z:u st):yP P F m ops true [] st fs (λfs s=>JX l (MF l) fs.reverse=true/\u s):=⟨⟨[],st,rfl,hc,z⟩⟩
def GX {o:Oper} {e:MG} (u:e.on=true) (A:o.guard=none) (E:vA P st o.op e.v e.d e.r e.nw) (C:∀k,k∈e.nw->zD st.h k=none) (hd:uB e.d=true) (B:∀t,o.dst=some t->t<m)
 (I:st'=st.app o.dst e.v e.d) (hk:yP P F m ops dr rest st' (e.fp::fs) Q):yP P F m ops dr (o::rest) st fs Q:=by
 subst I
 cases dr with
 |false=>exact⟨Pm A E C hd B (λt=>UX _ _ _ _ _) (funext λk=>YX _ _ _ _ _) hk.run⟩
 |true=>
  obtain⟨G,z,h1,h2⟩:=hk.run;refine⟨⟨e::G,z,⟨⟨hd,B,C,(λ_=>E),(λh=>by rw[u]at h;cases h),by rw[A];exact u⟩,h1⟩,?_⟩⟩;simpa using h2
section
variable {op:Op} {ty:Nat} {pos:String} {after:Array Edge} {t:Nat} {v:AV} {r nw:List Nat}
def wJ (z:vA P ⟨tm,h⟩ op v [] r []) (u:Nat.blt t m=true) (hk:yP P F m ops dr rest ⟨(t,v)::tm,h⟩ (⟨true,[],r⟩::fs) Q):yP P F m ops dr (⟨some t,op,ty,pos,after,none⟩::rest) ⟨tm,h⟩ fs Q:=
 GX (e:=⟨true,v,[],r,[]⟩) Z Z z zV Z (λj hj=>by cases hj;exact zBo u) Z hk
def qA {k:Nat} {e:xV} (A:vA P ⟨tm,h⟩ op v [(k,e)] r nw) (u:Nat.blt t m=true) (z:nw.all (λj=>(zD h j).isNone)=true) (hd:uB [(k,e)]=true) (hk:yP P F m ops dr rest ⟨(t,v)::tm,(k,e)::h⟩ (⟨true,k::nw,r⟩::fs) Q):
  yP P F m ops dr (⟨some t,op,ty,pos,after,none⟩::rest) ⟨tm,h⟩ fs Q:=
 GX (e:=⟨true,v,[(k,e)],r,nw⟩) Z Z A (λj hj=>by have:=zBk.1 z j hj;simpa using this) hd (λj hj=>by cases hj;exact zBo u) Z hk
def x_s {k:Nat} {e:xV} (z:vA P ⟨tm,h⟩ op v [(k,e)] r nw) (u:nw.all (λj=>(zD h j).isNone)=true) (hd:uB [(k,e)]=true) (hk:yP P F m ops dr rest ⟨tm,(k,e)::h⟩ (⟨true,k::nw,r⟩::fs) Q):yP P F m ops dr (⟨none,op,ty,pos,after,none⟩::rest) ⟨tm,h⟩ fs Q:=
 GX (e:=⟨true,v,[(k,e)],r,nw⟩) Z Z z (λj hj=>by have:=zBk.1 u j hj;simpa using this) hd (λj hj=>by cases hj) Z hk
def aO (A:vA P ⟨tm,h⟩ op v d r nw) (u:Nat.blt t m=true) (z:nw.all (λj=>(zD h j).isNone)=true) (hd:uB d=true) (hk:yP P F m ops dr rest ⟨(t,v)::tm,d++h⟩ (⟨true,xB d++nw,r⟩::fs) Q):
  yP P F m ops dr (⟨some t,op,ty,pos,after,none⟩::rest) ⟨tm,h⟩ fs Q:=
 GX (e:=⟨true,v,d,r,nw⟩) Z Z A (λj hj=>by have:=zBk.1 z j hj;simpa using this) hd (λj hj=>by cases hj;exact zBo u) Z hk
end
theorem JW.on {P:Program} {m:Nat} {ops:Array Oper} {d:Option Nat} {j:Nat} {e:MG} (z:XZ ops j=some t) (hv:zK st.tm t= .s (.bool b)) (u:JW P m ops ⟨d,op,ty,pos,after,none⟩ st e):
 JW P m ops ⟨d,op,ty,pos,after,some (j,b)⟩ st e:=by grind [XZ,zK,JW,gw]
def zAo {d:Option Nat} {j:Nat} (A:XZ ops j=some t) (hv:zK st.tm t= .s (.bool b)) (hk:yP P F m ops dr (⟨d,op,ty,pos,after,none⟩::rest) st fs Q):
  yP P F m ops dr (⟨d,op,ty,pos,after,some (j,b)⟩::rest) st fs Q:=by
 cases dr with
 |false=>exact⟨O2 A hv hk.run⟩
 |true=>
  obtain⟨u,z,h1,h2⟩:=hk.run
  cases u with
  |nil=>exact h1.elim
  |cons e u=>exact⟨⟨e::u,z,⟨h1.1.on A hv,h1.2⟩,h2⟩⟩
def G7 {d:Nat} {j:Nat} (A:XZ ops j=some t) (hv:zK tm t= .s c) (hc:gw c b=false) (z:Nat.blt d m=true) (hk:yP P F m ops dr rest ⟨(d,.s undef)::tm,h⟩ (⟨false,[],[]⟩::fs) Q):
  yP P F m ops dr (⟨some d,op,ty,pos,after,some (j,b)⟩::rest) ⟨tm,h⟩ fs Q:=by
 cases dr with
 |false=>exact⟨pu A hv hc z hk.run⟩
 |true=>
  obtain⟨B,u,h1,h2⟩:=hk.run;refine⟨⟨⟨false,.s undef,[],[],[]⟩::B,u,⟨⟨rfl,(λj hj=>by cases hj;exact zBo z),by simp,(λh=>by cases h),(λ_=>⟨rfl,rfl⟩),t,c,A,hv,hc.symm⟩,h1⟩,?_⟩⟩;rw[zCo,List.reverse_cons,zBy];exact h2
def lu {t:Nat} {c:Bool} (hv:zK st.tm t= .s (.bool c)) (h1:c=true->yP P F m ops false l ⟨(t,.s (.bool true))::st.tm,st.h⟩ fs Q) (h2:c=false->yP P F m ops false l ⟨(t,.s (.bool false))::st.tm,st.h⟩ fs Q):yP P F m ops false l st fs Q:=⟨Kh hv (λh=>(h1 h).run) (λh=>(h2 h).run)⟩
def TA {d:Option Nat} {j t:Nat} {c:Bool} (u:XZ ops j=some t) (hv:zK tm t= .s (.bool c)) (h1:c=true->yP P F m ops false (⟨d,op,ty,pos,after,some (j,b)⟩::rest) ⟨(t,.s (.bool true))::tm,h⟩ fs Q) (h2:c=false->yP P F m ops false (⟨d,op,ty,pos,after,some (j,b)⟩::rest) ⟨(t,.s (.bool false))::tm,h⟩ fs Q):
  yP P F m ops false (⟨d,op,ty,pos,after,some (j,b)⟩::rest) ⟨tm,h⟩ fs Q:=by
 have:=u;exact lu (st:=⟨tm,h⟩) hv h1 h2
section
variable {ty t:Nat} {pos:String} {after:Array Edge} {st:St} {g:Option (Nat×Bool)} {d:Option Nat}
def xQ {c:Operand} {u:Array Operand} {z:Array Nat} (hk:yP P F m ops dr (⟨some t,(.call ⟨.value c,u,z⟩),ty,pos,after,none⟩::rest) st fs Q):yP P F m ops dr (⟨some t,(.call ⟨.value c,u,z⟩),ty,pos,after,none⟩::rest) st fs Q:=hk
def wT {op:BinOp} {u:Nat} (hk:yP P F m ops dr (⟨some t,(.binOp op tx x y u),ty,pos,after,none⟩::rest) st fs Q):yP P F m ops dr (⟨some t,(.binOp op tx x y u),ty,pos,after,none⟩::rest) st fs Q:=hk
def K2 (hk:yP P F m ops dr (⟨some t,(.indexAddr tx x y),ty,pos,after,none⟩::rest) st fs Q):yP P F m ops dr (⟨some t,(.indexAddr tx x y),ty,pos,after,none⟩::rest) st fs Q:=hk
def ru (hk:yP P F m ops dr (⟨some t,(.load tx x),ty,pos,after,none⟩::rest) st fs Q):yP P F m ops dr (⟨some t,(.load tx x),ty,pos,after,none⟩::rest) st fs Q:=hk
def J2 (hk:yP P F m ops dr (⟨some t,(.fieldAddr tx x n),ty,pos,after,none⟩::rest) st fs Q):yP P F m ops dr (⟨some t,(.fieldAddr tx x n),ty,pos,after,none⟩::rest) st fs Q:=hk
def cE (hk:yP P F m ops dr (⟨none,(.store tx x y),ty,pos,after,none⟩::rest) st fs Q):yP P F m ops dr (⟨none,(.store tx x y),ty,pos,after,none⟩::rest) st fs Q:=hk
def MH {j:Nat} (hk:yP P F m ops dr (⟨d,op,ty,pos,after,some (j,b)⟩::rest) st fs Q):yP P F m ops dr (⟨d,op,ty,pos,after,some (j,b)⟩::rest) st fs Q:=hk
def zG (hk:yP P F m ops dr l st fs Q):yP P F m ops dr l st fs Q:=hk
end
def xR {Q:Exit->St->Prop} {id:Nat} (hk:yP P F m l.toArray false l st [] (λ_ s=>Q .normal s)):uG P F m (.region id l.toArray false) st Q:=Kc hk.run
theorem uD {Q:Exit->St->Prop} {id:Nat} (B:P.follows .mixedOrders=true) (hk:yP P F m l.toArray true l st [] (λfs s=>JX l (MF l) fs.reverse=true/\Q .normal s)):uG P F m (.region id l.toArray true) st Q:=by
 obtain⟨z,u,h1,h2,A⟩:=hk.run
 grind [JX,MF,Mm]
end
section
variable {P:Program} {TT:List TI} {K0:List Nat} {F:Fr K0} {m:Nat} {ops:Array Oper} {rest:List Oper} {Q:List FP->St->Prop} {tm:List (Nat×AV)} {h:List (Nat×xV)} {dr:Bool} {fs:List FP}
variable {ty:Nat} {pos:String} {after:Array Edge} {t:Nat}
def Gc {h:List (Nat×xV)} {t:Nat} (u:(zD h t).isNone=true): [t].all (λj=>(zD h j).isNone)=true:=by simpa using u
def GY (u:uW P TT) (B:yX (zK tm) x= .fp xs i 0) (hT:TT[T]? =some ti) (z:ti.d.agg=true) (C:xs[i]? =some (.agg cs)) (A:Nat.beq ti.size (ln cs)=true):
  vA P ⟨tm,h⟩ (.load T x) (.agg cs) [] [] []:=by
 have e:=zBz A;refine ZU u B C hT ?_;unfold Yb;rw[z,e];simp[AV.cells,zEn (zBb (ln cs))]
def GZ (u:uW P TT) {y:AV} (A:yX (zK tm) x= .fp xs i off) (hT:TT[T]? =some ti) (z:ti.d.agg=false) (B:xs[i]? =some y) (hv:y.cells[off]? =some v):
  vA P ⟨tm,h⟩ (.load T x) v [] [] []:=by
 refine ZU u A B hT ?_;unfold Yb;rw[z];exact hv
def KD (u:uW P TT) (B:yX (zK tm) x= .ptr k i 0) (hk:zD h k=some (.arr sz xs sl)) (hT:TT[T]? =some ti) (z:ti.d.agg=true) (C:xs[i]? =some (.agg cs)) (A:Nat.beq ti.size (ln cs)=true):
  vA P ⟨tm,h⟩ (.load T x) (.agg cs) [] [k] []:=by
 have e:=zBz A;refine dO u B hk C hT ?_;unfold Yb;rw[z,e];simp[AV.cells,zEn (zBb (ln cs))]
def KE (u:uW P TT) {y:AV} (A:yX (zK tm) x= .ptr k i off) (hk:zD h k=some (.arr sz xs sl)) (hT:TT[T]? =some ti) (z:ti.d.agg=false) (B:xs[i]? =some y) (hv:y.cells[off]? =some v):
  vA P ⟨tm,h⟩ (.load T x) v [] [k] []:=by
 refine dO u A hk B hT ?_;unfold Yb;rw[z];exact hv
def gW (E:uW P TT) (R:yX (zK tm) s= .s (.slice none 0 0)) (S:yX (zK tm) x=xv) (hT:TT[T]? =some ti) (hd:ti.d= .slice e) (G:TT[e]? =some te)
 (B:AI (zD h) xv=some ys) (A:∀y,ys[0]? =some y->ln y.cells=te.size) (O:Nat.ble 1 te.size=true) (hb:Nat.ble te.bytes 65536=true) (U:Nat.beq (ln te.zero) te.size=true) (M:ln ys<=1073741824) (I:Nat.blt t m=true) (u:(zD h t).isNone=true)
 (z:te.size=sz) (hk:yP P F m ops dr rest ⟨(t,.ref t 0 (ln ys))::tm,(t,.arr sz ys false)::h⟩ (⟨true,[t,t],OE xv⟩::fs) Q) (C:te.zero.all (·.oneCell')=true:=by rfl):yP P F m ops dr (⟨some t,.call ⟨.builtin .append, #[s,x], #[T,T]⟩,ty,pos,after,none⟩::rest) ⟨tm,h⟩ fs Q:=by
 subst z;exact qA (nw:=[t]) (ZX E t R S hT hd G B A O hb U C M) I (Gc u) Z hk
def Tf (S:uW P TT) {n:Nat} {kx ky:IntKind} {nx R:Int} {z:AV} (Y:yX (zK tm) x= .s (.int kx nx)) (hy:yX (zK tm) y= .s (.int ky R)) (hT:TT[T]? =some ti) (hd:ti.d= .slice e) (U:TT[e]? =some te)
 (hb:Nat.ble te.bytes 65536=true) (W:Nat.ble 1 te.size=true) (O:Nat.beq (ln te.zero) te.size=true) (I:te.zero.all (·.oneCell')=true) (M:Nat.beq (uK te).cells.length te.size=true) (A:(uK te).cells=te.zero.map .s) (hz:uK te=z)
 (C:nx=(n:Int)) (E:nx<=R) (u:R<=1073741824) (V:Nat.blt t m=true) (B:(zD h t).isNone=true)
 (G:te.size=sz) (hk:yP P F m ops dr rest ⟨(t,.ref t 0 n)::tm,(t,.arr sz (List.replicate n z) false)::h⟩ (⟨true,[t,t],[]⟩::fs) Q):yP P F m ops dr (⟨some t,.makeSlice T x y,ty,pos,after,none⟩::rest) ⟨tm,h⟩ fs Q:=by
 subst G hz;exact qA (nw:=[t]) (WF S t Y hy hT hd U C E u hb W O I M A) V (Gc B) Z hk
def jH (E:uW P TT) {k len:Nat} {V:Bool} (R:yX (zK tm) s= .ref k 0 len) (hk:zD h k=some (.arr sz xs ⟨V,false⟩)) (S:yX (zK tm) x=xv) (hT:TT[T]? =some ti) (hd:ti.d= .slice e) (G:TT[e]? =some te)
 (B:AI (zD h) xv=some ys) (z:Nat.beq sz te.size=true) (hb:Nat.ble te.bytes 65536=true) (U:Nat.beq (ln te.zero) te.size=true) (u:len=ln xs) (A:∀y,ys[0]? =some y->ln y.cells=sz) (M:ln xs+ln ys<=1073741824) (I:Nat.blt t m=true)
 (O:yP P F m ops dr rest ⟨(t,.ref k 0 (xs++ys).length)::tm,(k,.arr sz (xs++ys) true)::h⟩ (⟨true,[k],k::OE xv⟩::fs) Q) (C:te.zero.all (·.oneCell')=true:=by rfl):yP P F m ops dr (⟨some t,.call ⟨.builtin .append, #[s,x], #[T,T]⟩,ty,pos,after,none⟩::rest) ⟨tm,h⟩ fs Q:=by
 subst u;exact qA (nw:=[]) (MP E R hk S hT hd G B A z hb U C M) I Z Z O
def wN (E:uW P TT) {k len:Nat} (R:yX (zK tm) s= .ref k 0 len) (hk:zD h k=some (.arr sz xs sl)) (S:yX (zK tm) x=xv) (hT:TT[T]? =some ti) (hd:ti.d= .slice e) (G:TT[e]? =some te)
 (B:TH true (zD h) xv=some ys) (z:Nat.beq sz te.size=true) (hb:Nat.ble te.bytes 65536=true) (U:Nat.beq (ln te.zero) te.size=true) (u:len=ln xs) (A:∀y,ys[0]? =some y->ln y.cells=sz) (M:ln xs+ln ys<=1073741824) (I:Nat.blt t m=true)
 (O:yP P F m ops dr rest ⟨(t,.ref k 0 (xs++ys).length)::tm,(k,.arr sz (xs++ys) ⟨true,true⟩)::h⟩ (⟨true,[k],k::OE xv⟩::fs) Q) (C:te.zero.all (·.oneCell')=true:=by rfl):yP P F m ops dr (⟨some t,.call ⟨.builtin .append, #[s,x], #[T,T]⟩,ty,pos,after,none⟩::rest) ⟨tm,h⟩ fs Q:=by
 subst u;exact qA (nw:=[]) (PB E R hk S hT hd G B A z hb U C M) I Z Z O
section
variable {op:BinOp} {tx t2:Nat} {x y:Operand} {k:IntKind} {a b:Int} (hx:yX (zK tm) x= .s (.int k a)) (hy:yX (zK tm) y= .s (.int k b))
include hx hy
def Lm (hh:a<b):vA P ⟨tm,h⟩ (.binOp .lss tx x y t2) (.s (.bool true)) [] [] []:=by have:=FF (P:=P) (st:=⟨tm,h⟩) (tx:=tx) (ty:=t2) hx hy;rwa [zA9 hh]at this
def Km (hh:¬a<b):vA P ⟨tm,h⟩ (.binOp .lss tx x y t2) (.s (.bool false)) [] [] []:=by have:=FF (P:=P) (st:=⟨tm,h⟩) (tx:=tx) (ty:=t2) hx hy;rwa [zA7 hh]at this
def Jm (hh:a<=b):vA P ⟨tm,h⟩ (.binOp .leq tx x y t2) (.s (.bool true)) [] [] []:=by have:=FG (P:=P) (st:=⟨tm,h⟩) (tx:=tx) (ty:=t2) hx hy;rwa [zA9 hh]at this
def Im (hh:¬a<=b):vA P ⟨tm,h⟩ (.binOp .leq tx x y t2) (.s (.bool false)) [] [] []:=by have:=FG (P:=P) (st:=⟨tm,h⟩) (tx:=tx) (ty:=t2) hx hy;rwa [zA7 hh]at this
def Hm (hh:b<a):vA P ⟨tm,h⟩ (.binOp .gtr tx x y t2) (.s (.bool true)) [] [] []:=by have:=FH (P:=P) (st:=⟨tm,h⟩) (tx:=tx) (ty:=t2) hx hy;rwa [zA9 hh]at this
def Gm (hh:¬b<a):vA P ⟨tm,h⟩ (.binOp .gtr tx x y t2) (.s (.bool false)) [] [] []:=by have:=FH (P:=P) (st:=⟨tm,h⟩) (tx:=tx) (ty:=t2) hx hy;rwa [zA7 hh]at this
def Fm (hh:b<=a):vA P ⟨tm,h⟩ (.binOp .geq tx x y t2) (.s (.bool true)) [] [] []:=by have:=FI (P:=P) (st:=⟨tm,h⟩) (tx:=tx) (ty:=t2) hx hy;rwa [zA9 hh]at this
def Em (hh:¬b<=a):vA P ⟨tm,h⟩ (.binOp .geq tx x y t2) (.s (.bool false)) [] [] []:=by have:=FI (P:=P) (st:=⟨tm,h⟩) (tx:=tx) (ty:=t2) hx hy;rwa [zA7 hh]at this
def Dm (hh:a=b):vA P ⟨tm,h⟩ (.binOp .eql tx x y t2) (.s (.bool true)) [] [] []:=by have:=FD (P:=P) (st:=⟨tm,h⟩) (tx:=tx) (ty:=t2) hx hy;rwa [show(a==b)=true by simpa using hh]at this
def Cm (hh:a≠b):vA P ⟨tm,h⟩ (.binOp .eql tx x y t2) (.s (.bool false)) [] [] []:=by have:=FD (P:=P) (st:=⟨tm,h⟩) (tx:=tx) (ty:=t2) hx hy;rwa [show(a==b)=false by simpa using hh]at this
def Bm (hh:a≠b):vA P ⟨tm,h⟩ (.binOp .neq tx x y t2) (.s (.bool true)) [] [] []:=by have:=FE (P:=P) (st:=⟨tm,h⟩) (tx:=tx) (ty:=t2) hx hy;rwa [show(a != b)=true by simpa using hh]at this
def Am (hh:a=b):vA P ⟨tm,h⟩ (.binOp .neq tx x y t2) (.s (.bool false)) [] [] []:=by have:=FE (P:=P) (st:=⟨tm,h⟩) (tx:=tx) (ty:=t2) hx hy;rwa [show(a != b)=false by simpa using hh]at this
end
end
def Xj {β:Type} (v:AV) (K:AV->Option β):Option β:=match v with
 | .s v=>K (.s v)
 | .ptr k i o=>K (.ptr k i o)
 | .agg cs=>K (.agg cs)
 | .sl b xs=>K (.sl b xs)
 | .slc b xs=>K (.slc b xs)
 | .ref k o n=>K (.ref k o n)
 | .fp xs i o=>K (.fp xs i o)
 | .fn f cs=>K (.fn f cs)
 | .tup vs=>K (.tup vs)
 | .bot=>K .bot
 | .gh n=>K (.gh n)
 | .fm o p=>K (.fm o p)
theorem ZT {β:Type} (v:AV) (K:AV->Option β):Xj v K=K v:=by cases v<;>rfl
def QY {β:Type}:List AV->(List AV->Option β)->Option β
 | [],K=>K []
 |x::r,K=>Xj x λx=>QY r λr=>K (x::r)
theorem gX {β:Type}:∀(l:List AV) (K:List AV->Option β),QY l K=K l
 | [],_=>rfl
 |x::r,K=>by rw[QY,ZT,gX r]
abbrev Res:=AV×List (Nat×xV)×List Nat×List Nat
def C2 (ti:TI) (u:List AV) (off:Nat) (r:List Nat):Option Res:=
 bif ti.d.agg then(bif Nat.ble (off+ti.size) (ln u) then QY ((u.drop off).take ti.size) λl=>some (.agg l,[],r,[])else none)
 else match u[off]? with
  |some v=>Xj v λv=>some (v,[],r,[])
  |none=>none
def Sf:BinOp->Bool
 | .eql| .neq| .lss| .leq| .gtr| .geq=>true
 |_=>false
def cU:Nat->List Nat->Bool
 |_,[]=>true
 |n,x::r=>Nat.beq x n&&cU (n+1) r
def exec (TT:List TI) (tm:List (Nat×AV)) (h:List (Nat×xV)) (t:Nat):Op->Option Res
 | .move x=>Xj (yX (zK tm) x) λv=>some (v,[],[],[])
 | .assign x=>Xj (yX (zK tm) x) λv=>some (v,[],[],[])
 | .pick c x y=>match yX (zK tm) c with
  | .s (.bool b)=>bif b then Xj (yX (zK tm) x) λv=>some (v,[],[],[])else Xj (yX (zK tm) y) λv=>some (v,[],[],[])
  |_=>none
 | .extract x i=>match yX (zK tm) x with
  | .tup vs=>match vs[i]? with
   |some v=>Xj v λv=>some (v,[],[],[])
   |none=>none
  |_=>none
 | .box _ x=>match yX (zK tm) x with
  | .agg cs=>some (.ptr t 0 0,[(t,.box cs)],[],[t])
  |v=>bif v.one then Xj v λv=>some (.ptr t 0 0,[(t,.box [v])],[],[t])else none
 | .alloc T=>match TT[T]? with
  |some ti=>bif ti.zero.all (·.oneCell')then QY (ti.zero.map AV.s) λl=>some (.ptr t 0 0,[(t,.box l)],[],[t])else none
  |none=>none
 | .load T x=>match yX (zK tm) x,TT[T]? with
  | .ptr k 0 off,some ti=>match zD h k with
   |some (.box cs)=>C2 ti cs off [k]
   |some (.arr _ xs _)=>match xs[0]? with
    |some y=>C2 ti y.cells off [k]
    |none=>none
   |_=>none
  | .ptr k (i+1) off,some ti=>match zD h k with
   |some (.arr _ xs _)=>match xs[i+1]? with
    |some y=>C2 ti y.cells off [k]
    |none=>none
   |_=>none
  | .fp xs i off,some ti=>match xs[i]? with
   |some y=>C2 ti y.cells off []
   |none=>none
  |_,_=>none
 | .store T p x=>match yX (zK tm) p,TT[T]? with
  | .ptr k 0 off,some ti=>match zD h k with
   |some (.box cs)=>Xj (yX (zK tm) x) λv=>bif v.ok&&(Nat.beq (ln v.cells) ti.size&&Nat.ble (off+ti.size) (ln cs))then QY (TB cs off v.cells) λl=>some (.bot,[(k,.box l)],[k],[])else none
   |_=>none
  |_,_=>none
 | .fieldAddr T x f=>match yX (zK tm) x,TT[T]? with
  | .ptr k 0 off,some ti=>match zD h k,ti.d with
   | some (.box _),.str fs=>match fs[f]? with
    |some (o,ft)=>match TT[ft]? with
     |some z=>bif Nat.ble 1 z.size then some (.ptr k 0 (off+o),[],[k],[])else none
     |none=>none
    |none=>none
   |_,_=>none
  |_,_=>none
 | .field T x f=>match yX (zK tm) x,TT[T]? with
  | .agg cs,some ti=>match ti.d with
   | .str fs=>match fs[f]? with
    |some (o,ft)=>match TT[ft]? with
     |some z=>C2 z cs o []
     |none=>none
    |none=>none
   |_=>none
  |_,_=>none
 | .nilCheck x=>match yX (zK tm) x with
  | .ptr k 0 off=>match zD h k with
   |some (.box _)=>some (.ptr k 0 off,[],[k],[])
   |_=>none
  |_=>none
 | .unOp .not _ x=>match yX (zK tm) x with
  | .s (.bool b)=>some (.s (.bool !b),[],[],[])
  |_=>none
 | .makeFunc (.func f) ⟨[]⟩ cap=>QY (cap.toList.map (yX (zK tm))) λl=>some (.fn f l,[],[],[])
 | .build T u=>match TT[T]? with
  | some ti=>match ti.d with
   | .str fs=>bif ti.zero.all (·.oneCell')then(match Ac TT fs with
    |some A=>match MQ (A[·]?) (ti.zero.map .s) (bW ⟨tm,h⟩ u)with
     |some cs=>QY cs λl=>some (.agg l,[],[],[])
     |none=>none
    |none=>none)else none
   | .arr _ e=>bif ti.zero.all (·.oneCell')then(match TT[e]? with
    |some te=>match MQ (λi=>some (i*te.size,te.size)) (ti.zero.map .s) (bW ⟨tm,h⟩ u)with
     |some cs=>QY cs λl=>some (.agg l,[],[],[])
     |none=>none
    |none=>none)else none
   |_=>none
  |none=>none
 | .buildSlice T len u=>match TT[T]? with
  | some ti=>match ti.d with
   | .slice e=>match TT[e]? with
    | some te=>bif cU 0 (u.toList.map (·.1))&&(Nat.beq (ln u.toList) len&&(Nat.ble 1 te.size&&(Nat.ble (len*te.size) 65536&&Nat.beq (ln te.zero) te.size)))then
      QY (u.toList.map λp=>yX (zK tm) p.2) λxs=>bif xs.all (λx=>Nat.beq (ln x.cells) te.size&&(x.ok&&x.nokey))then some (.ref t 0 len,[(t,.arr te.size xs false)],[],[t])else none else none
    |none=>none
   |_=>none
  |none=>none
 | .call ⟨.builtin .len,⟨[x]⟩,⟨[T]⟩⟩=>match TT[T]? with
  | some ti=>match ti.d with
   | .slice _=>match yX (zK tm) x with
    | .sl _ xs=>some (.s (.int .i64 (ln xs)),[],[],[])
    | .ref k _ len=>match zD h k with
     |some (.arr _ _ _)=>some (.s (.int .i64 len),[],[k],[])
     |_=>none
    | .s (.slice _ n _)=>some (.s (.int .i64 n),[],[],[])
    |_=>none
   |_=>none
  |none=>none
 | .call ⟨.builtin .max,⟨[x,y]⟩,⟨[_,_]⟩⟩=>match yX (zK tm) x,yX (zK tm) y with
  | .s (.int .i64 m),.s (.int .i64 n)=>some (.s (.int .i64 (max m n)),[],[],[])
  |_,_=>none
 | .call ⟨.builtin .min,⟨[x,y]⟩,⟨[_,_]⟩⟩=>match yX (zK tm) x,yX (zK tm) y with
  | .s (.int .i64 m),.s (.int .i64 n)=>some (.s (.int .i64 (min m n)),[],[],[])
  |_,_=>none
 |_=>none
section
variable {P:Program} {TT:List TI} (hP:uW P TT) {tm:List (Nat×AV)} {h:List (Nat×xV)} {t:Nat}
theorem MI {u:List AV} {v:AV} {z:List Nat} (A:C2 ti u off r=some (v,d,z,nw)):Yb ti.d.agg ti.size u off=some v/\d=[]/\z=r/\nw=[]:=by grind [C2,Yb,gX,Nat.ble,Option.some.injEq,Prod.mk.injEq,ZT]
theorem VI:∀(l:List Nat) (n:Nat),cU n l=true->∀(j:Nat) x,l[j]? =some x->x=n+j
 | [],_,_,_,_,h=>by simp at h
 |y::r,n,u,0,x,h=>by simp at h;subst h;simp[cU]at u;omega
 |y::r,n,u,j+1,x,h=>by
  simp only[cU,zBg]at u;have:=VI r (n+1) u.2 j x MJ;omega
include hP in
theorem VJ:∀{op:Op} {v:AV} {d:List (Nat×xV)} {r nw:List Nat},exec TT tm h t op=some (v,d,r,nw)->vA P ⟨tm,h⟩ op v d r nw:=by
 intro op v d r nw z;unfold exec at z;split at z
 .grind [exec,ZT,Option.some.injEq,Prod.mk.injEq,sn]
 .grind [exec,ZT,Option.some.injEq,Prod.mk.injEq,Ec]
 .grind [exec,ZT,Option.some.injEq,Prod.mk.injEq,Zn]
 .grind [exec,ZT,Option.some.injEq,Prod.mk.injEq,AB]
 .rename_i T x;generalize A:yX (zK tm) x=u at z;by_cases W:u.isAgg=true
  .cases u<;>simp[AV.isAgg]at W
   simp only[zCu,zDl]at z;obtain⟨rfl,rfl,rfl,rfl⟩:=z;exact dN (v:= .agg _) t A Z
  .have C:(bif u.one then some (AV.ptr t 0 0,[(t,xV.box [u])],([]:List Nat),[t])else none)=some (v,d,r,nw):=by
    cases u<;>first|exact z|(simp[AV.isAgg]at W)
   cases R:u.one with
   |false=>rw[R]at C;cases C
   |true=>
    rw[R]at C;simp only[zCm,zCu,zDl]at C;obtain⟨rfl,rfl,rfl,rfl⟩:=C
    have ok:u.ok=true:=by cases u<;>first|rfl|exact R
    have e:u.cells=[u]:=by cases u<;>first|rfl|(simp[AV.one]at R)
    grind [exec,dN]
 .split at z
  .rename_i ti hT
   cases B:ti.zero.all (·.oneCell')with
   |false=>simp[B]at z
   |true=>
    simp only[B,zCm,gX,zCu,zDl]at z;obtain⟨rfl,rfl,rfl,rfl⟩:=z;exact fP hP t hT B
  .cases z
 .split at z
  .rename_i k off ti A hT;split at z
   .rename_i cs hk;obtain⟨q1,rfl,rfl,rfl⟩:=MI z;exact FL hP A hk hT q1
   .rename_i xs _ hk;split at z
    .rename_i y E;obtain⟨q1,rfl,rfl,rfl⟩:=MI z;exact dO hP A hk E hT q1
    .cases z
   .cases z
  .rename_i k i off ti A hT;split at z
   .rename_i xs _ hk;split at z
    .rename_i y E;obtain⟨q1,rfl,rfl,rfl⟩:=MI z;exact dO hP A hk E hT q1
    .cases z
   .cases z
  .rename_i xs i off ti A hT;split at z
   .rename_i y E;obtain⟨q1,rfl,rfl,rfl⟩:=MI z;exact ZU hP A E hT q1
   .cases z
  .cases z
 .rename_i T p x;split at z
  .rename_i k off ti hp hT;split at z
   .rename_i cs hk;rw[ZT]at z
    cases hc:((yX (zK tm) x).ok&&(Nat.beq (yX (zK tm) x).cells.length ti.size&&Nat.ble (off+ti.size) (ln cs)))with
    |false=>rw[hc]at z;cases z
    |true=>
     rw[hc]at z;simp only[zCm,gX,zCu,zDl]at z;obtain⟨rfl,rfl,rfl,rfl⟩:=z;simp only[zBg]at hc;exact KH hP hp Z hk hT hc.1 hc.2.1 hc.2.2
   .cases z
  .cases z
 .split at z
  .rename_i k off ti A hT;split at z
   .rename_i cs fs hk hd;split at z
    .rename_i o ft G;split at z
     .rename_i Y I
      cases B:Nat.ble 1 Y.size with
      |false=>simp[B]at z
      |true=>
       simp only[B,zCm,zCu,zDl]at z;obtain⟨rfl,rfl,rfl,rfl⟩:=z;exact TC hP A hk hT hd G I B
     .cases z
    .cases z
   .cases z
  .cases z
 .split at z
  .rename_i cs ti A hT;split at z
   .rename_i fs hd;split at z
    .rename_i o ft G;split at z
     .rename_i Y I;obtain⟨q1,rfl,rfl,rfl⟩:=MI z;exact Bh hP A hT hd G I q1
     .cases z
    .cases z
   .cases z
  .cases z
 .split at z
  .rename_i A;split at z
   .rename_i hk;simp only[zCu,zDl]at z;obtain⟨rfl,rfl,rfl,rfl⟩:=z;exact RL A hk
   .cases z
  .cases z
 .split at z
  .rename_i A;simp only[zCu,zDl]at z;obtain⟨rfl,rfl,rfl,rfl⟩:=z;exact Vu A
  .cases z
 .simp only[gX,zCu,zDl]at z;obtain⟨rfl,rfl,rfl,rfl⟩:=z;exact FJ
 .split at z
  .rename_i ti hT;split at z
   .rename_i fs hd
    cases B:ti.zero.all (·.oneCell')with
    |false=>simp[B]at z
    | true=>
     simp only[B,zCm]at z;split at z
     .rename_i pl U;split at z
      .rename_i cs G;simp only[gX,zCu,zDl]at z;obtain⟨rfl,rfl,rfl,rfl⟩:=z;exact Ah hP hT hd B U G
      .cases z
     .cases z
   .rename_i e hd
    cases B:ti.zero.all (·.oneCell')with
    |false=>simp[B]at z
    | true=>
     simp only[B,zCm]at z;split at z
     .rename_i te M;split at z
      .rename_i cs G;simp only[gX,zCu,zDl]at z;obtain⟨rfl,rfl,rfl,rfl⟩:=z;exact KI hP hT hd M B G
      .cases z
     .cases z
   .cases z
  .cases z
 .split at z
  .rename_i ti hT;split at z
   .rename_i e hd;split at z
    .rename_i T len S _ _ _ te M;rw[gX]at z
     cases hc:(cU 0 (S.toList.map (·.1))&&(Nat.beq (ln S.toList) len&&(Nat.ble 1 te.size&&(Nat.ble (len*te.size) 65536&&Nat.beq (ln te.zero) te.size))))with
     |false=>rw[hc]at z;cases z
     | true=>
      rw[hc]at z;simp only[zCm]at z;generalize O:(S.toList.map λp=>yX (zK tm) p.2)=xs at z
      cases V:xs.all (λx=>Nat.beq (ln x.cells) te.size&&(x.ok&&x.nokey))with
      |false=>simp[V]at z
      | true=>
       simp only[V,zCm,zCu,zDl]at z;obtain⟨rfl,rfl,rfl,rfl⟩:=z;simp only[zBg]at hc;obtain⟨c1,c2,c3,c4,c5⟩:=hc;refine yV hP t hT hd M c3 ?_ (by rw[<-O];simpa using c2) V c4 c5;rw[<-O];apply zCf;intro j;simp only[bW,zBe,zFb,zCn]
       cases hj:S.toList[j]? with
       |none=>simp
       |some p=>
        have:=VI _ 0 c1 j p.1 (by simp[hj]);simp[this]
    .cases z
   .cases z
  .cases z
 .split at z
  .rename_i ti hT;split at z
   .rename_i hd;split at z
    .rename_i A;simp only[zCu,zDl]at z;obtain⟨rfl,rfl,rfl,rfl⟩:=z;exact Bc hP A hT hd
    .rename_i A;split at z
     .rename_i hk;simp only[zCu,zDl]at z;obtain⟨rfl,rfl,rfl,rfl⟩:=z;exact AG hP A hk hT hd
     .cases z
    .rename_i A;simp only[zCu,zDl]at z;obtain⟨rfl,rfl,rfl,rfl⟩:=z;exact AH hP A hT hd
    .cases z
   .cases z
  .cases z
 .split at z
  .rename_i A E;simp only[zCu,zDl]at z;obtain⟨rfl,rfl,rfl,rfl⟩:=z;exact Tu A E
  .cases z
 .split at z
  .rename_i A E;simp only[zCu,zDl]at z;obtain⟨rfl,rfl,rfl,rfl⟩:=z;exact Su A E
  .cases z
 .cases z
end
def yn:BinOp->Int->Int->Prop
 | .eql,a,b=>a=b
 | .neq,a,b=>a≠b
 | .lss,a,b=>a<b
 | .leq,a,b=>a<=b
 | .gtr,a,b=>b<a
 | .geq,a,b=>b<=a
 |_,_,_=>False
def uS:BinOp->Int->Int->Bool
 | .eql,a,b=>a==b
 | .neq,a,b=>a != b
 | .lss,a,b=>decide (a<b)
 | .leq,a,b=>decide (a<=b)
 | .gtr,a,b=>decide (b<a)
 | .geq,a,b=>decide (b<=a)
 |_,_,_=>false
section
variable {P:Program} {TT:List TI} {K0:List Nat} {F:Fr K0} {m:Nat} {ops:Array Oper} {rest:List Oper} {Q:List FP->St->Prop} {tm:List (Nat×AV)} {h:List (Nat×xV)} {dr:Bool} {fs:List FP}
variable {ty:Nat} {pos:String} {after:Array Edge} {t:Nat}
def uN (u:uW P TT) {v:AV} (z:exec TT tm h t op=some (v,[],r,[])) (A:Nat.blt t m=true) (hk:yP P F m ops dr rest ⟨(t,v)::tm,h⟩ (⟨true,[],r⟩::fs) Q):
 yP P F m ops dr (⟨some t,op,ty,pos,after,none⟩::rest) ⟨tm,h⟩ fs Q:=wJ (VJ u z) A hk
def YZ (u:uW P TT) {v:AV} {k:Nat} {e:xV} (z:exec TT tm h t op=some (v,[(k,e)],r,nw)) (A:Nat.blt t m=true) (B:nw.all (λj=>(zD h j).isNone)=true) (hd:uB [(k,e)]=true)
 (hk:yP P F m ops dr rest ⟨(t,v)::tm,(k,e)::h⟩ (⟨true,k::nw,r⟩::fs) Q):yP P F m ops dr (⟨some t,op,ty,pos,after,none⟩::rest) ⟨tm,h⟩ fs Q:=qA (VJ u z) A B hd hk
def cV (u:uW P TT) {v:AV} {k:Nat} {e:xV} (z:exec TT tm h 0 op=some (v,[(k,e)],r,nw)) (A:nw.all (λj=>(zD h j).isNone)=true) (hd:uB [(k,e)]=true)
 (hk:yP P F m ops dr rest ⟨tm,(k,e)::h⟩ (⟨true,k::nw,r⟩::fs) Q):yP P F m ops dr (⟨none,op,ty,pos,after,none⟩::rest) ⟨tm,h⟩ fs Q:=x_s (VJ u z) A hd hk
section
variable {op:BinOp} {tx t2:Nat} {x y:Operand} {k:IntKind} {a b:Int} (hop:Sf op=true) (hx:yX (zK tm) x= .s (.int k a)) (hy:yX (zK tm) y= .s (.int k b))
include hop hx hy
def su:vA P ⟨tm,h⟩ (.binOp op tx x y t2) (.s (.bool (uS op a b))) [] [] []:=by
 cases op<;>first
  |exact FD hx hy
  |exact FE hx hy
  |exact FF hx hy
  |exact FG hx hy
  |exact FH hx hy
  |exact FI hx hy
  |(simp[Sf]at hop)
def Gh (hh:yn op a b):vA P ⟨tm,h⟩ (.binOp op tx x y t2) (.s (.bool true)) [] [] []:=by
 cases op<;>first
  |exact Dm hx hy hh
  |exact Bm hx hy hh
  |exact Lm hx hy hh
  |exact Jm hx hy hh
  |exact Hm hx hy hh
  |exact Fm hx hy hh
  |(simp[Sf]at hop)
def Fh (hh:¬yn op a b):vA P ⟨tm,h⟩ (.binOp op tx x y t2) (.s (.bool false)) [] [] []:=by
 cases op<;>first
  |exact Cm hx hy hh
  |exact Am hx hy (by simpa [yn]using hh)
  |exact Km hx hy hh
  |exact Im hx hy hh
  |exact Gm hx hy hh
  |exact Em hx hy hh
  |(simp[Sf]at hop)
end
end
def JZ (H:jM X h β w) {K:Nat} (C:h K=none) (G:1<=sz):xU X w h β w (over [(K,.arr sz [] true)] h) (bH β K []):=
 xU.step H K _ _ (zBb _) (λ_ _ _=>rfl) Z Z Z (λb n u=>by simp at u) (λ_ _ _=>rfl) (λe A=>by rw[C]at A;cases A) (λE=>⟨G,by simp,λh=>absurd Z h,λi y z=>by simp at z,
  λb n r B=>by rw[yL]at B;simp at B,λ_ _=>undef,λi y j v z _=>by simp at z,λi j hi _=>by simp at hi,λb n u=>by rw[yL]at u;simp at u⟩)
def eV (hd:uB d=true) (A:∀k,h k≠some .dead):∀k,over d h k≠some .dead:=λk=>by
 unfold over;split
 .rename_i e z;intro u;cases u;exact qI hd z
 .exact A k
section
variable {P:Program} {K0:List Nat} {F:Fr K0} {m:Nat} {tm:List (Nat×AV)} {h:List (Nat×xV)}
theorem wL.virt (H:wL F m ⟨tm,h⟩ a w) (t K sz:Nat) (hv:zK tm t= .s (.slice none 0 0)) (I:(zD h K).isNone=true) (O:Nat.ble 1 sz=true):wL F m ⟨(t,.ref K 0 0)::tm,(K,.arr sz [] true)::h⟩ a w:=by
 obtain⟨⟨X,β,M,z,A,B,E,C⟩,S,gs,hl⟩:=H;have hk:zD h K=none:=by simpa using I
 have G:=JZ z hk (zBo O);have u:∀k,over [(K,.arr sz [] true)] (zD h) k≠some .dead:=eV Z S
 have R:VC F m (zK ((t,.ref K 0 0)::tm)) (over [(K,.arr sz [] true)] (zD h)) a w:=by
  refine⟨⟨X,_,M,G.hok,λj=>?_,B.goes G u (G.lives z u),λi hi=>?_,C.goes z G⟩,u,gs,hl⟩
  .rw[xF];split
   .rename_i hj;subst hj;have:=A j;rw[hv]at this;rw[this.s_inv];exact .ref0 K 0 sz [] true none (qV _ _ _) (zBb _)
   .exact(A j).evo G.evo
  .rw[xF]at hi;split at hi
   .cases hi
   .exact F.go G (E i hi)
 unfold wL;dsimp only;rw[show zD ((K,.arr sz [] true)::h)=over [(K,.arr sz [] true)] (zD h)from vF [(K,.arr sz [] true)] h];exact R
theorem wL.virtB (H:wL F m ⟨tm,h⟩ a w) (k i K sz:Nat) (hk:zD h k=some (.box cs)) (hv:cs[i]? =some (.s (.slice none 0 0))) (hK:(zD h K).isNone=true) (hp:Nat.ble 1 sz=true):wL F m ⟨tm,(k,.box (cs.set i (.ref K 0 0)))::(K,.arr sz [] true)::h⟩ a w:=by
 obtain⟨⟨X,β,hX,O,Y,KK,hJ,hD⟩,nd,gs,hl⟩:=H;have I:zD h K=none:=by simpa using hK
 have G:=JZ O I (zBo hp);have z:∀k,over [(K,.arr sz [] true)] (zD h) k≠some .dead:=eV Z nd;have u:k≠K:=λe=>by rw[e,I]at hk;cases hk
 have C:over [(K,.arr sz [] true)] (zD h) k=some (.box cs):=by rw[<-vF,zE6,xK,Os u];exact hk
 have M:=G.hok;have hβ:bH β K [] k=β k:=by unfold bH;rw[Os u]
 have B:xU X w _ (bH β K []) w (over [(k,.box (cs.set i (.ref K 0 0)))] (over [(K,.arr sz [] true)] (zD h))) (bH (bH β K []) k (bH β K [] k)):=
  xU.step M k (.box (cs.set i (.ref K 0 0))) (bH β K [] k) (zBb _) (λ_ _ _=>rfl) Z Z Z (λb n U=> .inl ⟨n,U⟩) (λ_ _ _=>rfl) (λe W=>by rw[C]at W;cases W;exact .inr ⟨⟨_,rfl⟩,λb n U=>U⟩) (λE=>by
   obtain⟨b,c,el,h1,h2,h3,h4,V⟩:=M.ent k _ C;refine⟨b,c,el,by rw[yL];exact h1,h2,by simpa using h3,h4,λj v hj=>?_⟩;rw[zD5]at hj;split at hj
   .rename_i S;subst S;split at hj
    .injection hj with hj
     subst hj;have h6:=V i _ hv;rw[h6.s_inv];refine .ref0 K 0 sz [] true none ?_ (zBb _);rw[show over [(k,xV.box (cs.set i (.ref K 0 0)))] (over [(K,.arr sz [] true)] (zD h)) K=_ from by rw[<-vF,<-vF,zE6,zE6,xK,Os (λe=>u e.symm),xK,zA5 Z]]
    .cases hj
   .exact(V j v hj).evo E)
 have A:=eV (d:=[(k,.box (cs.set i (.ref K 0 0)))]) Z z
 have R:VC F m (zK tm) (over [(k,.box (cs.set i (.ref K 0 0)))] (over [(K,.arr sz [] true)] (zD h))) a w:=
  ⟨⟨X,_,hX,B.hok,λj=>((Y j).evo G.evo).evo B.evo,(KK.goes G z (G.lives O z)).goes B A (B.lives M A),λi hi=>F.go B (F.go G (hJ i hi)),(hD.goes O G).goes M B⟩,A,gs,hl⟩
 unfold wL;dsimp only;rw[show zD ((k,.box (cs.set i (.ref K 0 0)))::(K,.arr sz [] true)::h)=over [(k,.box (cs.set i (.ref K 0 0)))] (over [(K,.arr sz [] true)] (zD h))from(vF [(k,.box (cs.set i (.ref K 0 0)))] _).trans (zBq (over _) (vF [(K,.arr sz [] true)] h))];exact R
def zQ {c:Code} {Q:Exit->St->Prop} (t K sz:Nat) (hv:zK tm t= .s (.slice none 0 0)) (u:(zD h K).isNone=true) (z:Nat.ble 1 sz=true) (hk:uG P F m c ⟨(t,.ref K 0 0)::tm,(K,.arr sz [] true)::h⟩ Q):uG P F m c ⟨tm,h⟩ Q:=⟨λa w H=>hk.run a w (H.virt t K sz hv u z)⟩
def gL {c:Code} {Q:Exit->St->Prop} (k i K sz:Nat) {u:List AV} (hb:zD h k=some (.box cs)) (hv:cs[i]? =some (.s (.slice none 0 0))) (z:(zD h K).isNone=true) (A:Nat.ble 1 sz=true) (hc:cs.set i (.ref K 0 0)=u) (hk:uG P F m c ⟨tm,(k,.box u)::(K,.arr sz [] true)::h⟩ Q):
 uG P F m c ⟨tm,h⟩ Q:=⟨λa w H=>hk.run a w (hc▸H.virtB k i K sz hb hv z A)⟩
end
section
variable {P:Program} {TT:List TI} (hP:uW P TT) {tm:List (Nat×AV)} {h:List (Nat×xV)}
include hP in
theorem RI {z:Operand} {u len:Nat} {k:IntKind} {i:Int} (C:yX (zK tm) x= .ref u 0 len) (hi:yX (zK tm) z= .s (.int k i)) (hk:zD h u=some (.arr sz xs sl)) (hT:TT[T]? =some ti) (hd:ti.d= .slice e) (A:TT[e]? =some te)
 (h0:0<=i) (hl:i<len) (B:Nat.beq sz te.size=true):vA P ⟨tm,h⟩ (.indexAddr T x z) (.ptr u i.toNat 0) [] [u] []:=by
 have:=TF (st:=⟨tm,h⟩) hP C hi hk hT hd A h0 hl B
 grind
end
section
variable {P:Program} {K0:List Nat} {F:Fr K0} {m:Nat} {ops:Array Oper} {rest:List Oper} {Q:List FP->St->Prop} {dr:Bool} {fs:List FP}
variable {ty t:Nat} {pos:String} {after:Array Edge} {st:St}
def yE {u:Nat} (hk:yP P F m ops dr (⟨some t,.call ⟨.builtin .append, #[s,x], #[T,u]⟩,ty,pos,after,none⟩::rest) st fs Q):yP P F m ops dr (⟨some t,.call ⟨.builtin .append, #[s,x], #[T,u]⟩,ty,pos,after,none⟩::rest) st fs Q:=hk
def vJ (n:Nat) {u:Array Operand} {z:Array Nat} (hk:yP P F m ops dr (⟨some t,.call ⟨.value (.func n),u,z⟩,ty,pos,after,none⟩::rest) st fs Q):yP P F m ops dr (⟨some t,.call ⟨.value (.func n),u,z⟩,ty,pos,after,none⟩::rest) st fs Q:=hk
def tu {S D:Nat} (hk:yP P F m ops dr (⟨some t,.convert S D x,ty,pos,after,none⟩::rest) st fs Q):yP P F m ops dr (⟨some t,.convert S D x,ty,pos,after,none⟩::rest) st fs Q:=hk
def wn {op:UnOp} (hk:yP P F m ops dr (⟨some t,.unOp op T x,ty,pos,after,none⟩::rest) st fs Q):yP P F m ops dr (⟨some t,.unOp op T x,ty,pos,after,none⟩::rest) st fs Q:=hk
end
def BR {tm:List (Nat×AV)} {h:List (Nat×xV)} {z u:Nat} {k A:IntKind} {n:Int} {M B:TI} (C:uW P TT) (G:TT[z]? =some M) (hd:TT[u]? =some B) (hk:B.d= .int A) (I:yX (zK tm) x= .s (.int k n)) (E:aG A n):
  vA P ⟨tm,h⟩ (.convert z u x) (.s (.int A n)) [] [] []:=by
 have:=AC (st:=⟨tm,h⟩) C G hd hk I
 rwa [kL E]at this
def FA (k:IntKind) (n:Int):Int:=k.wrap (BitVec.ofInt k.bits (if k.signed=true then -1 else k.max) ^^^ BitVec.ofInt k.bits n).toNat
def Rf {k:IntKind} {n:Int} (B:yX (zK st.tm) x= .s (.int k n)):vA P st (.unOp .xor tx x) (.s (.int k (FA k n))) [] [] []:=
 yZ λo X tm h w β a u A _ _ z=>by
  obtain⟨d0,o0,I,G,C,E⟩:=o;dsimp only at u;subst u;have h1:=vS z A (x:=x) uO B;exact⟨.int k (FA k n),by simp[execOp,h1,Op.unary,Op.intBits,FA],.fz _ _ (.s _)⟩
theorem xP.frz {args:List AV} {r:AV} {I:AV} {z:List (Nat×xV)} (h:xP P f args [] r h1) (K:List Nat) (R:ZG (wY K (zD h1) r)=I) (hh:wZ K (zD h1)=z) (C:uB z=true):xP P f args [] I z:=
 ⟨h.able,λk=>qI C,λX w β u hc H O=>(h.sim X w β u hc H O).mono λe w' ⟨c,β',A,G,hv⟩=>by
  obtain⟨M,E⟩:=G.hok.restr K;refine⟨c,λk=>if k∈K then β' k else [],A,⟨G.size,G.keep,λk b n B=>?_,G.bs,λk e A=>by simp[zD]at A,by rw[<-hh];exact M,G.os,G.tape,G.output⟩,?_⟩
  .split at B
   .exact G.own k b n B
   .simp at B
  .rw[<-hh,<-R]
   exact(E _ _ hv).wk⟩
