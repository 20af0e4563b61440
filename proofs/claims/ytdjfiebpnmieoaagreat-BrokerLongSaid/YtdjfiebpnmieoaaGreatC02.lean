/- Part 2. -/
import Derived.Test.YtdjfiebpnmieoaaGreatC01
import Derived.Tactics
import Derived.Deep.LoopGhost
import Derived.TacticsIn
import Derived.OrdersIn
import Derived.RangeFuncCalls
import Derived.RangeFuncRecord
import Derived.LoopIn
import Derived.RangeFuncLeaves
import Derived.Orders
namespace Go.Proofs.YtdjfiebpnmieoaaGreat.Av
set_option linter.all false
open List renaming length->ln,range->nm,getD->ny
open Inhabited renaming default->dd
variable {a:Act}{after:Array Edge}{ops:Array Oper}{args:Array Operand}{b:Bool}{Q:Exit->Act->World->Prop}{K0:List Nat}{l:List Oper}{TT:List TI}{f i j k m t tx ty:Nat}{L:Nat->Bool}{D D' X:Nat->Prop}{op:Op}{o:Oper}{x y:Operand}{P:Program}{pos:String}{c:Value}{w w':World}{β β':qG}{h h':yS}
section
def Rj (β:qG) (b:Nat):Prop:=∃k n,(b,n)∈β k
abbrev GS:Nat:=1000000
def Cd (u:Option Nat):Fence:={Fence.wide with round:=u}
structure Fr (K0:List Nat) where
 X:Nat->Prop
 w0:World
 β0:qG
 h0:yS
 hK:∀k b n,(b,n)∈β0 k->k∈K0
 hh:∀k e,h0 k=some e->k∈K0
 ro:Option Nat
 it:Bool
 V:Nat->Prop
 J:Nat->(Nat->Prop)->(Nat->Prop)->World->Prop
 Jst:∀i O X w w' O',J i O X w->w.heap.size<=w'.heap.size->(∀b,b<w.heap.size->¬O b->w'.heap[b]? =w.heap[b]?)->(∀b,O' b->O b\/w.heap.size<=b)->(∀b,O' b->b<w'.heap.size)->w'.os=w.os->w'.tape=w.tape->w'.output=w.output->J i O' X w'
def F8 (h:yS) (k:Nat):wB->Prop
 | .box _=>∃cs,h k=some (.box cs)
 | .obj _=>∃cs,h k=some (.obj cs)
 | .arr sz xs _=>∃u st,h k=some (.arr sz u st)/\xs.length<=ln u
 | .dead=>False
variable {K0:List Nat}
structure dG (F:Fr K0) (h:yS) (β:qG) (w:World):Prop where
 knd:∀k e,F.h0 k=some e->F8 h k e
 size:F.w0.heap.size<=w.heap.size
 keep:∀b,b<F.w0.heap.size->¬F.V b->(∀k n,(b,n)∉F.β0 k)->w.heap[b]? =F.w0.heap[b]?
 own:∀k b n,(b,n)∈β k->(∃k' n',(b,n')∈F.β0 k')\/F.w0.heap.size<=b
 pas:∀k b n,(b,n)∈F.β0 k->∃n',n<=n'/\(b,n')∈β k
 bs:∀k b n,(b,n)∈F.β0 k->wW w b=wW F.w0 b
 os:w.os=F.w0.os
 tape:w.tape=F.w0.tape
 output:w.output=F.w0.output
def uN:List (Nat×wB)->Bool
 | []=>true
 |(_,.dead)::_=>false
 |_::r=>uN r
theorem qW:∀{d:List (Nat×wB)} {k:Nat},uN d=true->zE d k≠some .dead
 | [],k,_=>by simp[zE]
 |(j,e)::r,k,h=>by
  unfold zE
  cases e with
  |dead=>simp[uN]at h
  |box cs=>cases Nat.beq k j<;>simp;exact qW (by simpa [uN]using h)
  |obj cs=>cases Nat.beq k j<;>simp;exact qW (by simpa [uN]using h)
  |arr a b c=>cases Nat.beq k j<;>simp;exact qW (by simpa [uN]using h)
def Jx (β β':qG):Prop:=∀k b n,(b,n)∈β k->∃u,n<=u/\(b,u)∈β' k
theorem wG.lives (H:gW X h β w) (G:wG X w h β w' h' β') (hd:∀k,h' k≠some .dead):Jx β β':=by
 intro k b n z
 cases u:h k with
 |none=>rw[H.off k u]at z;simp at z
 |some e=>
  rcases G.key k e u with h1|h1
  all_goals grind
theorem dG.goes {F:Fr K0} (K:dG F h β w) (G:wG X w h β w' h' β') (O:∀k,h' k≠some .dead) (hl:Jx β β'):dG F h' β' w' where
 knd k e he:=by
  have h1:=K.knd k e he
  cases e with
  |dead=>exact h1
  |box cs=>
   obtain⟨C,h2⟩:=h1;exact((G.key k _ h2).resolve_left (O k)).1
  |obj cs=>
   obtain⟨C,h2⟩:=h1;exact((G.key k _ h2).resolve_left (O k)).1
  |arr sz xs st=>
   obtain⟨U,st',h2,E⟩:=h1;obtain⟨B,A,I,S⟩:=((G.key k _ h2).resolve_left (O k)).1;exact⟨B,A,I,zBi E S⟩
 size:=zBi K.size G.size
 keep b hb hi hn:=by
  rw[G.keep b (zBn hb K.size),K.keep b hb hi hn];intro k n u
  rcases K.own k b n u with⟨R,z,h1⟩|h1
  .exact hn _ _ h1
  .omega
 own k b n u:=by
  rcases G.own k b n u with⟨R,z,h1⟩|h1
  .exact K.own R b z h1
  .exact .inr (zBi K.size h1)
 pas k b n u:=by
  obtain⟨z,h1,h2⟩:=K.pas k b n u;obtain⟨M,E,I⟩:=hl k b z h2;exact⟨M,zBi h1 E,I⟩
 bs k b n u:=by
  obtain⟨z,_,h2⟩:=K.pas k b n u;rw[G.bs k b z h2,K.bs k b n u]
 os:=G.os.trans K.os
 tape:=G.tape.trans K.tape
 output:=G.output.trans K.output
def m5 (X:Nat->Prop) (F:Fr K0) (z:List Deferred) (w:World):Prop:=
 ∃u:List Nat,z=u.map (λb=>{target:= .collected b,args:= #[]})/\(F.it=true->u=[])/\u.Nodup/\∀b,b∈u->X b/\F.w0.heap.size<=b/\w.heap[b]? =some (.deferred (some []))
theorem m5.goes {F:Fr K0} {u:List Deferred} (H:gW X h β w) (D:m5 X F u w) (G:wG X w h β w' h' β'):m5 X F u w':=by
 obtain⟨z,h1,A,h2,B⟩:=D;refine⟨z,h1,A,h2,λb hb=>?_⟩;obtain⟨q1,E,I⟩:=B b hb;exact⟨q1,E,by rw[G.keep b (H.lt b (.inl q1)) λk n C=>H.free k b n C q1];exact I⟩
theorem Fr.go {F:Fr K0} (G:wG X w h β w' h' β') (hj:F.J i (Rj β) X w):F.J i (Rj β') X w':=
 F.Jst i _ X w w' _ hj G.size (λb hb z=>G.keep b hb λk n u=>z ⟨k,n,u⟩) (λb ⟨k,n,u⟩=>(G.own k b n u).imp (λ⟨k',n',h⟩=>⟨k',n',h⟩) id) (λb ⟨k,n,u⟩=>G.hok.lt b (.inr ⟨k,n,u⟩)) G.os G.tape G.output
def L6 (F:Fr K0) (X:Nat->Prop):Prop:=(∀b,F.X b->X b)/\∀b,X b->F.X b\/F.w0.heap.size<=b
structure QG (F:Fr K0) (m:Nat) (tm:Nat->AV) (h:yS) (a:Act) (w:World):Prop where
 ex:∃X β,L6 F X/\gW X h β w/\(∀t,yK w (xX X β) h β (tm t) (a.eval (.tmp t)))/\dG F h β w/\(∀i,tm GS= .gh i->F.J i (Rj β) X w)/\m5 X F a.defers w
 nd:∀k,h k≠some .dead
 gs:m<=GS
 len:a.tmps.size=m
def wT (F:Fr K0) (m:Nat) (st:St):Act->World->Prop:=QG F m (zM st.tm) (zE st.h)
theorem xL (t:Nat) (v:AV) (u:List (Nat×AV)) (j:Nat):zM ((t,v)::u) j=if j=t then v else zM u j:=by simp_all [zM]
def xN (t:Nat) (v:wB) (u:List (Nat×wB)) (j:Nat):zE ((t,v)::u) j=if j=t then some v else zE u j:=by simp_all [zE]
theorem vP:∀(d h:List (Nat×wB)),zE (d++h)=over d (zE h)
 | [],_=>rfl
 |(k,e)::r,h=>by
  funext j
  have u:=congrFun (vP r h) j;simp only[zC0,over,xN]at *; split
  .rfl
  .exact u
theorem WE.wp {z:Option Nat} {K:Act->World->Prop} {N:Value->World->Prop} (hd:WE P N ((execOp a.eval o).run P w)) (h:∀c w',N c w'->K (a.put o.dst c) w'):o.wpIn (Cd z) 0 P a w K Q:=by
 have hs:(o.semAt (Cd z).round a.eval).run P w=(execOp a.eval o).run P w:=by
  show(o.semAt z a.eval).run P w=_
  cases z with
  |none=>rfl
  | some l=>
   by_cases u:∃c,o.op= .defer c
   .exfalso;obtain⟨c,hc⟩:=u;revert hd;unfold execOp;rw[hc];simp only[Sem.run_bind]
    cases (resolve a.eval c o.type).run P w<;>simp[Result.andThen,WE]
   .rw[Oper.semAt_some l _ _ λc hc=>u ⟨c,hc⟩]
 refine⟨λ_ _=>trivial,?_⟩;rw[hs];generalize (execOp a.eval o).run P w=r at hd
 cases r with
 |halt x w'=>exact hd.elim
 | ok n w'=>
  cases n with
  |value c=>exact h _ _ hd
  |skip=>exact h _ _ hd
  |enter f args=>
   refine⟨λhx=>by simp[Cd,Fence.wide]at hx,?_⟩;exact callsIn_wide.2 (Calls.mono hd λe w'' ⟨c,he,hn⟩=>by subst he;exact h _ _ hn)
  |_=>exact hd.elim
theorem QG.put {F:Fr K0} {B:Nat->AV} (I:L6 F X) (H:gW X h β w) (hv:∀t,yK w (xX X β) h β (B t) (a.eval (.tmp t))) (K:dG F h β w) (E:∀i,B GS= .gh i->F.J i (Rj β) X w) (hd:m5 X F a.defers w) (gs:m<=GS) (hl:a.tmps.size=m)
 (G:wG X w h β w' h' β') (A:∀k,h' k≠some .dead) {v:AV} (hc:yK w' (xX X β') h' β' v c) (u:Option Nat) (C:∀d,u=some d->d<m):
  QG F m (λt=>if u=some t then v else B t) h' (a.put u c) w':=by
 refine⟨⟨X,β',I,G.hok,λt=>?_,K.goes G A (G.lives H A),λi hi=>?_,by have:=hd.goes H G;cases u<;>exact this⟩,A,gs,by cases u<;>simp[Act.put,hl]⟩
 .split
  .rename_i z;subst z;have:t<a.tmps.size:=by rw[hl];exact C t Z
   have e:(a.put (some t) c).eval (.tmp t)=c:=by simp[Act.put,Act.eval,this]
   rw[e];exact hc
  .rename_i z;rw[Act.eval_put (λd hd e=>z (by rw[hd];injection e with e;rw[e]))];exact(hv t).evo G.evo
 .rw[Of (λe=>by have:=C GS e;omega)]at hi;exact F.go G (E i hi)
theorem vC.rel {st:St} {v:AV} {d:List (Nat×wB)} {r nw:List Nat} (hs:vC P st o.op v d r nw) {F:Fr K0} {u:Nat->AV} (H:QG F m u h a w)
 (h1:∀t,t∈dI o.op->u t=zM st.tm t) (h2:∀k,k∈r->h k=zE st.h k) (I:∀k,k∈nw->h k=none) (hd:uN d=true) (W:∀t,o.dst=some t->t<m) {K:Act->World->Prop} 
 (S:∀C w',QG F m (λt=>if o.dst=some t then v else u t) (over d h) C w'->K C w'):o.wpIn (Cd F.ro) 0 P a w K Q:=by
 obtain⟨⟨X,β,U,A,B,E,R,O⟩,Y,gs,hl⟩:=H;refine WE.wp (hs.run X u h h1 h2 I o a w β rfl A B) ?_;rintro c w' ⟨β',G,hc⟩
 have z:∀k,over d h k≠some .dead:=λk=>by
  unfold over;split
  .rename_i e V;intro M;cases M;exact qW hd V
  .exact Y k
 exact S _ _ (QG.put U A B E R O gs hl G z hc o.dst W)
def NL {F:Fence} {n:Nat} {a:Act} {w:World} {c:Code} (I:Nat->Act->World->Prop) (M:Nat) (R:I M a w)
 (z:∀k a w,I k a w->c.wpIn F n P (Exit.then (λA w'=>∃G,G<k/\I G A w') Q) a w):(Code.loop c).wpIn F n P Q a w:=by
 refine wpIn_loop (λa w=>∃k,I k a w) (λa w=>leastOf (λk=>I k a w)) ⟨M,R⟩ ?_;intro a w O;refine wpIn_mono (z _ a w (leastOf_spec O).1) ?_;intro e A w' E
 cases e with
 |normal=>
  obtain⟨C,B,u⟩:=E;exact show(∃n,I n A w')/\leastOf (λn=>I n A w')<leastOf (λn=>I n a w)from⟨⟨C,u⟩,Nat.lt_of_le_of_lt ((leastOf_spec ⟨C,u⟩).2 C u) B⟩
 |_=>exact E
structure uR (P:Program) (F:Fr K0) (m:Nat) (c:Code) (st:St) (Q:Exit->St->Prop):Prop where
 run:∀a w,wT F m st a w->c.wpIn (Cd F.ro) 0 P (λe a' w'=>∃st',Q e st'/\wT F m st' a' w') a w
def ER (P:Program) (F:Fr K0) (m:Nat) (ops:Array Oper) (l:List Oper) (st:St) (Q:St->Prop):Prop:=
 ∀a w,wT F m st a w->wpListIn (Cd F.ro) 0 P ops (λe u w'=>e= .normal/\∃st',Q st'/\wT F m st' u w') l a w
section
variable {P:Program} {F:Fr K0} {m:Nat} {Q:Exit->St->Prop} {st:St}
theorem uR.mono {c:Code} {u:Exit->St->Prop} (h:uR P F m c st Q) (z:∀e s,Q e s->u e s):uR P F m c st u:=
 ⟨λa w H=>Code.wpIn_mono (λ_ _ _ ⟨s,h1,h2⟩=>⟨s,z _ _ h1,h2⟩) (h.run a w H)⟩
def xB (h:Q .normal st):uR P F m .skip st Q:=⟨λ_ _ H=>wpIn_skip ⟨st,h,H⟩⟩
def xG (h:Q .ret st):uR P F m .ret st Q:=⟨λ_ _ H=>wpIn_ret ⟨st,h,H⟩⟩
def xJ {id:Nat} (h:Q (.exit id) st):uR P F m (.exit id) st Q:=⟨λ_ _ H=>wpIn_exit ⟨st,h,H⟩⟩
def UT (P:Program) (F:Fr K0) (m:Nat) (y:Code) (Q:Exit->St->Prop):Exit->St->Prop
 | .normal,s=>uR P F m y s Q
 |e,s=>Q e s
def xK {x y:Code} (h:uR P F m x st (UT P F m y Q)):uR P F m (.seq x y) st Q:=⟨λa w H=>
 wpIn_seq (Code.wpIn_mono (λe a' w' ⟨s,h1,h2⟩=>by
  cases e with
  |normal=>exact uR.run h1 a' w' h2
  |_=>exact⟨s,h1,h2⟩) (h.run a w H))⟩
def xU {c:Operand} {x y:Code} {t:Bool} (hc:yY (zM st.tm) c= .s (.bool t)) (h1:t=true->uR P F m x st Q) (h2:t=false->uR P F m y st Q):uR P F m (.cond c x y) st Q:=⟨λa w H=>by
 have hv:a.eval c= .bool t:=by
  obtain⟨⟨_,β,_,_,u,_⟩,_⟩:=H;have:=MQ u c;rw[hc]at this;exact this.s_inv
 exact wpIn_cond_split hv (λh=>(h1 h).run a w H) (λh=>(h2 h).run a w H)⟩
def yM {c:Operand} {x y:Code} (hc:yY (zM st.tm) c= .s (.bool true)) (h:uR P F m x st Q):uR P F m (.cond c x y) st Q:=xU hc (λ_=>h) (λh=>by cases h)
def yB {c:Operand} {x y:Code} (hc:yY (zM st.tm) c= .s (.bool false)) (h:uR P F m y st Q):uR P F m (.cond c x y) st Q:=xU hc (λh=>by cases h) (λ_=>h)
def eo (id:Nat) (Q:Exit->St->Prop):Exit->St->Prop
 | .exit u,s=>bif Nat.beq u id then Q .normal s else Q (.exit u) s
 |e,s=>Q e s
def xE {id:Nat} {c:Code} (h:uR P F m c st (eo id Q)):uR P F m (.block id c) st Q:=⟨λa w H=>
 wpIn_block (Code.wpIn_mono (λe a' w' ⟨s,h1,h2⟩=>by
  cases e with
  |exit z=>
   simp only[Exit.inBlock];split
   .rename_i u;subst u;simp only[eo,Qi,zBr]at h1;exact⟨s,h1,h2⟩
   .rename_i u;simp only[eo,GT u,zCc]at h1;exact⟨s,h1,h2⟩
  |_=>exact⟨s,h1,h2⟩) (h.run a w H))⟩
def Ad {id:Nat} (h:ER P F m l.toArray l st (Q .normal)):uR P F m (.region id l.toArray false) st Q:=⟨λa w H=>
 Code.wpIn_mono (λe a' w' ⟨he,s,h1,h2⟩=>by subst he;exact⟨s,h1,h2⟩) (wpIn_region_lit (h a w H))⟩
end
end
mutual
def AV.refs:AV->List Nat
 | .ref k _ _| .ptr k _ _=>[k]
 | .agg cs| .fn _ cs| .tup cs=>gQ cs
 |_=>[]
def gQ:List AV->List Nat
 | []=>[]
 |v::r=>v.refs++gQ r
end
mutual
def AV.nosl:AV->Bool
 | .sl _ _| .slc _ _| .fp _ _ _| .fm _ _=>false
 | .agg cs| .fn _ cs| .tup cs=>KV cs
 |_=>true
def KV:List AV->Bool
 | []=>true
 |v::r=>v.nosl&&KV r
end
mutual
def kI (K:List Nat) (h:yS):AV->AV
 | .ref k off len=>bif K.contains k then .ref k off len else match h k with
  |some (.arr _ xs fl)=>bif fl.nest then .bot else .sl false ((xs.drop off).take len)
  |_=> .bot
 | .ptr k i off=>bif K.contains k then .ptr k i off else .bot
 | .agg cs=> .agg (vA K h cs)
 | .fn f cs=> .fn f (vA K h cs)
 | .tup cs=> .tup (vA K h cs)
 |v=>v
def vA (K:List Nat) (h:yS):List AV->List AV
 | []=>[]
 |v::r=>kI K h v::vA K h r
end
mutual
def wQ (K:List Nat) (h:yS):AV->AV
 | .ref k off len=>bif K.contains k then .ref k off len else match h k with
  |some (.arr _ xs fl)=>bif fl.nest then(bif wU (vA K h xs)then .sl false (((vA K h xs).drop off).take len)else .bot)else .sl false ((xs.drop off).take len)
  |_=> .bot
 | .ptr k i off=>bif K.contains k then .ptr k i off else .bot
 | .agg cs=> .agg (kJ K h cs)
 | .fn f cs=> .fn f (kJ K h cs)
 | .tup cs=> .tup (kJ K h cs)
 |v=>v
def kJ (K:List Nat) (h:yS):List AV->List AV
 | []=>[]
 |v::r=>wQ K h v::kJ K h r
end
mutual
def YY:AV->AV
 | .s v=>match v with
  | .slice none 0 0=> .sl false []
  |v=> .s v
 | .sl _ xs=> .sl false xs
 | .agg cs=> .agg (wkL cs)
 | .fn f cs=> .fn f (wkL cs)
 | .tup cs=> .tup (wkL cs)
 |v=>v
def wkL:List AV->List AV
 | []=>[]
 |v::r=>YY v::wkL r
end
theorem vB:∀{cs:List AV} {i:Nat} {v:AV} {k:Nat},cs[i]? =some v->k∈v.refs->k∈gQ cs
 | [],_,_,_,h,_=>by simp at h
 |x::r,0,v,k,h,hk=>by simp at h;subst h;simp[gQ,hk]
 |x::r,i+1,v,k,h,hk=>by simp[gQ,vB (show r[i]? =some v by simpa using h) hk]
variable {r v:AV}{caps:List AV}{tm:Nat->AV}
theorem cB:∀{cs:List AV} {i:Nat} {v:AV},KV cs=true->cs[i]? =some v->v.nosl=true
 | [],_,_,_,h=>by simp at h
 |x::r,0,v,hk,h=>by simp at h;subst h;simp[KV]at hk;exact hk.1
 |x::r,i+1,v,hk,h=>by simp[KV]at hk;exact cB hk.2 WC
theorem YE (K:List Nat) (h:yS):∀(cs:List AV) (i:Nat),(kJ K h cs)[i]? =(cs[i]?).map (wQ K h)
 | [],i=>by simp[kJ]
 |x::r,0=>by simp[kJ]
 |x::r,i+1=>by simp[kJ,YE K h r i]
theorem ZE (K:List Nat) (h:yS):∀(cs:List AV) (i:Nat),(vA K h cs)[i]? =(cs[i]?).map (kI K h)
 | [],i=>by simp[vA]
 |x::r,0=>by simp[vA]
 |x::r,i+1=>by simp[vA,ZE K h r i]
theorem jC (K:List Nat) (h:yS):∀(cs:List AV),(vA K h cs).length=ln cs
 | []=>rfl
 |x::r=>by simp[vA,jC K h r]
theorem WB (h:v.isAgg=false):v.cells=[v]:=by cases v<;>first|rfl|(simp[AV.isAgg]at h)
def KW (K:List Nat) (h:yS) (x:AV):(kI K h x).cells=vA K h x.cells:=by
 cases x with
 |agg cs=>rfl
 | ref k off len=>
  apply WB;unfold kI
  cases K.contains k with
  |true=>rfl
  | false=>
   simp only[zCc]
   rcases h k with _|(_|⟨_,_,fl⟩|_|_)
   .rfl
   .rfl
   .dsimp only
    cases fl.nest<;>rfl
   .rfl
   .rfl
 |ptr k i off=>apply WB;unfold kI;cases K.contains k<;>rfl
 |_=>rfl
def KX (K:List Nat) (h:yS) (x:AV):(wQ K h x).cells=kJ K h x.cells:=by
 cases x with
 |agg cs=>rfl
 | ref k off len=>
  apply WB;unfold wQ
  cases K.contains k with
  |true=>rfl
  | false=>
   simp only[zCc]
   rcases h k with _|(_|⟨_,xs,fl⟩|_|_)
   .rfl
   .rfl
   .dsimp only
    cases fl.nest with
    |false=>rfl
    |true=>
     simp only[zBr]
     cases wU (vA K h xs)<;>rfl
   .rfl
   .rfl
 |ptr k i off=>apply WB;unfold wQ;cases K.contains k<;>rfl
 |_=>rfl
def OS {x:AV} (h:x.nokey=true):wU x.cells=true:=by
 by_cases u:x.isAgg=true
 .cases x<;>first
   |exact h
   |(simp[AV.isAgg]at u)
 all_goals grind [wU,WB]
theorem uO (K:List Nat) (h:yS):∀(cs:List AV),(kJ K h cs).length=ln cs
 | []=>rfl
 |x::r=>by simp[kJ,uO K h r]
theorem ze:∀(cs:List AV) (i:Nat),(wkL cs)[i]? =(cs[i]?).map YY
 | [],i=>by simp[wkL]
 |x::r,0=>by simp[wkL]
 |x::r,i+1=>by simp[wkL,ze r i]
theorem bP:∀(cs:List AV),(wkL cs).length=ln cs
 | []=>rfl
 |x::r=>by simp[wkL,bP r]
theorem tg:∀cs:List AV,wkL cs=cs.map YY
 | []=>rfl
 |x::r=>by simp[wkL,tg r]
theorem xS.wk :∀{v:AV} {c:Value},xS w D v c->xS w D (YY v) c:=by
 intro v c hv
 induction hv with
 |bot c=>exact .bot c
 |gh n c=>exact .gh n c
 |s v=>
  unfold YY;split
  .exact .nil _ _
  .exact .s _
 | agg cs c hl h1 _ B=>
  exact .agg _ c (by rw[bP];exact hl) h1 λi v hv=>by
   grind [YY,ze,Option.map_eq_some_iff]
 |nil a cap=>exact .nil _ _
 |nil1 a cap=>exact .nil _ _
 |sl C xs b o sz cap f hx hL hc hh _=>exact .sl false xs b o sz cap f hx hL hc hh
 |slc cap xs b o sz f hL hc hh _=>exact .slc cap xs b o sz f hL hc hh
 |fp xs b o sz i off f hL hi u hh _=>exact .fp xs b o sz i off f hL hi u hh
 |fm A p b x u hl hd hx z=>exact .fm A p b x u hl hd hx z
theorem yK.wk :∀{v:AV} {c:Value},yK w D h β v c->yK w D h β (YY v) c:=by
 intro v c hv
 have z:∀{cs:List AV} {c:Array Value} (u:∀(i:Nat) v,cs[i]? =some v->yK w D h β (YY v) (c.getD i undef)) (i:Nat) v,(wkL cs)[i]? =some v->yK w D h β v (c.getD i undef):=λu i v hv=>by
  rw[ze,zAs]at hv
  grind
 induction hv with
 |fz v c B=>exact .fz _ _ B.wk
 |agg cs c hl h1 _ u=>exact .agg _ c (by rw[bP];exact hl) h1 (z u)
 |fn f caps c hl _ u=>exact .fn f _ c (by rw[bP];exact hl) (z u)
 |tup vs c hl _ u=>exact .tup _ c (by rw[bP];exact hl) (z u)
 |dref k off len c hk h1=>exact .dref _ _ _ _ hk h1
 |dptr k i off c hk h1=>exact .dptr _ _ _ _ hk h1
 |ref k off len sz xs st b n cap hk hb A hc hs=>exact .ref k off len sz xs st b n cap hk hb A hc hs
 |ref0 k off sz xs st a hk A=>exact .ref0 k off sz xs st a hk A
 |pbox k off cs b n hk hb=>exact .pbox k off cs b n hk hb
 |parr k i off sz xs st b n hk hb hi C=>exact .parr k i off sz xs st b n hk hb hi C
theorem xS.free :∀{v:AV} {c:Value},xS w D v c->v.nosl=true->xS w D' v c:=by
 intro v c hv
 induction hv with
 |bot c=>exact λ_=> .bot c
 |gh n c=>exact λ_=> .gh n c
 |s v=>exact λ_=> .s v
 |agg cs c hl h1 _ z=>exact λu=> .agg cs c hl h1 λi v hv=>z i v hv (cB (by simpa [AV.nosl]using u) hv)
 |_=>intro u;simp[AV.nosl]at u
theorem yK.fz0 (H:gW X h β w) {K:List Nat} 
 (hk:∀k,k∈K->∀e,h k=some e->match e with| .box _=>∃C,h' k=some (.box C)| .obj _=>∃C,h' k=some (.obj C)| .arr sz xs _=>∃A st',h' k=some (.arr sz A st')/\xs.length=ln A| .dead=>h' k=some .dead) (hβ:∀k,k∈K->β' k=β k) (hD:∀b,b<w.heap.size->¬xX X β b->¬D' b)
 (hv:yK w (xX X β) h β v c):(∀k,k∈v.refs->k∈K\/∀b n,(b,n)∈β k->¬D' b)->yK w D' h' β' (kI K h v) c:=by
 have S:∀{cs:List AV} {c:Array Value} (I:∀(i:Nat) v,cs[i]? =some v->(∀k,k∈v.refs->k∈K\/∀b n,(b,n)∈β k->¬D' b)->yK w D' h' β' (kI K h v) (c.getD i undef)) (B:∀k,k∈gQ cs->k∈K\/∀b n,(b,n)∈β k->¬D' b)
   (i:Nat) v,(vA K h cs)[i]? =some v->yK w D' h' β' v (c.getD i undef):=λI B i v hv=>by
  rw[ZE,zAs]at hv;obtain⟨u,hu,rfl⟩:=hv;exact I i u hu λk hk=>B k (vB hu hk)
 have E:∀{v c},xS w (xX X β) v c->xS w D' v c:=λW=>W.evo (zAg _) λb hb hd=>⟨rfl,hD b hb hd⟩
 have z:∀{k},K.contains k=true↔k∈K:=λ{k}=>by simp
 induction hv with
 | fz v c W=>
  intro _
  have:xS w D' (kI K h v) c:=by
   have h2:∀{v c},xS w (xX X β) v c->xS w D' (kI K h v) c:=by
    intro v c W
    induction W with
    |bot c=>exact .bot c
    |gh n c=>exact .gh n c
    |s v=>exact .s v
    | agg cs c hl h1 _ I=>
     exact .agg _ c (by rw[jC];exact hl) h1 λi v hv=>by
      rw[ZE,zAs]at hv
      grind
    |nil a cap=>exact .nil _ _
    |nil1 a cap=>exact .nil1 _ _
    |sl nn xs b o sz cap f hx hL hc hh _=>exact E (.sl nn xs b o sz cap f hx hL hc hh)
    |slc cap xs b o sz f hL hc hh _=>exact E (.slc cap xs b o sz f hL hc hh)
    |fp xs b o sz i off f hL hi Y hh _=>exact E (.fp xs b o sz i off f hL hi Y hh)
    |fm ob p b x Y hl hd hx hp=>exact E (.fm ob p b x Y hl hd hx hp)
   exact h2 W
  exact .fz _ _ this
 |agg cs c hl h1 _ I=>exact λB=> .agg _ c (by rw[jC];exact hl) h1 (S I B)
 |fn f caps c hl _ I=>exact λB=> .fn f _ c (by rw[jC];exact hl) (S I B)
 |tup vs c hl _ I=>exact λB=> .tup _ c (by rw[jC];exact hl) (S I B)
 |dref k off len c hk' h1=>
  intro B;unfold kI
  cases hc:K.contains k with
  |true=>exact .dref _ _ _ _ (hk k (z.1 hc) _ hk') h1
  |false=>simp only[hk',zCc];exact .fz _ _ (.bot _)
 |dptr k i off c hk' h1=>
  intro B;unfold kI
  cases hc:K.contains k with
  |true=>exact .dptr _ _ _ _ (hk k (z.1 hc) _ hk') h1
  |false=>exact .fz _ _ (.bot _)
 | ref k off len sz xs st b n cap hk' hb hn V hs=>
  intro B;unfold kI
  cases hc:K.contains k with
  |true=>obtain⟨A,st',G,_⟩:=hk k (z.1 hc) _ hk';exact .ref k off len sz A st' b n cap G (by rw[hβ k (z.1 hc)];exact hb) hn V hs
  | false=>
   simp only[hk',zCc]
   cases R:st.nest with
   |true=>exact .fz _ _ (.bot _)
   |false=>
   simp only[zCc];have ag:¬k∈K:=λh=>by rw[z.2 h]at hc;cases hc
   have O:=(B k (by simp[AV.refs])).resolve_left ag;obtain⟨g1,g2,g3,g4,g5,f,g6,g7,g8⟩:=H.ent k _ hk'
   have ap:n<=ln xs:=by
    cases hbk:β k with
    |nil=>rw[hbk]at hb;simp at hb
    |cons q rr=>
     obtain⟨b0,n0⟩:=q;obtain⟨e1,_,e3⟩:=g5 b0 n0 rr hbk;rw[hbk]at hb;simp at hb
     rcases hb with⟨_,rfl⟩|hb
     .omega
     .exact zE2 (e3 b n hb)
   have hl:((xs.drop off).take len).length=len:=by simp;omega
   by_cases hz:len=0
   .subst hz;simp only[zDi];exact .fz _ _ (.nil _ _)
   .have U:∀(i:Nat) y,((xs.drop off).take len)[i]? =some y->xs[off+i]? =some y:=λi y M=>by
     rw[zB3]at M;split at M
     .rwa [zCt]at M
     .cases M
    obtain⟨cc,el,e1,e2,e3,_⟩:=g8 b n hb
    have:=xS.sl (w:=w) (D:=D') false ((xs.drop off).take len) b (off*sz) sz cap (λi j=>f (off+i) j) (λh0=>hz (by rw[<-hl,h0];rfl))
     ⟨H.lt b (.inr ⟨k,n,hb⟩),O b n hb,g1,by rw[hl];omega,λi y M=>g4 _ y (U i y M),λi j hi hj=>by
      rw[hl]at hi;rw[kF e1,show off*sz+i*sz+j=(off+i)*sz+j by rw[zBq]]
      exact e3 _ _ (by omega) hj,λi j hi hj=>g7 _ _ Tg hj⟩ (by rw[hl];exact V) (λi y j v M hv=>E (g6.toF R _ y j v (U i y M) hv))
    rw[hl]at this;exact .fz _ _ this
 | ref0 k off sz xs st a hk' hn=>
  intro B;unfold kI
  cases hc:K.contains k with
  |true=>obtain⟨A,st',G,ac⟩:=hk k (z.1 hc) _ hk';exact .ref0 k off sz A st' a G (ac▸hn)
  |false=>
   simp only[hk',zCc,zDi]
   cases st.nest with
   |true=>exact .fz _ _ (.bot _)
   |false=>exact .fz _ _ (.nil _ _)
 | pbox k off cs b n hk' hb=>
  intro B;unfold kI
  cases hc:K.contains k with
  |true=>
   obtain⟨C,h2⟩:=hk k (z.1 hc) _ hk';exact .pbox k off C b n h2 (by rw[hβ k (z.1 hc)];exact hb)
  |false=>exact .fz _ _ (.bot _)
 |parr k i off sz xs st b n hk' hb hi Y=>
  intro B;unfold kI
  cases hc:K.contains k with
  |true=>obtain⟨A,st',G,_⟩:=hk k (z.1 hc) _ hk';exact .parr k i off sz A st' b n G (by rw[hβ k (z.1 hc)];exact hb) hi Y
  |false=>exact .fz _ _ (.bot _)
theorem yK.frz (H:gW X h β w) {K:List Nat} 
 (hk:∀k,k∈K->∀e,h k=some e->match e with| .box _=>∃E,h' k=some (.box E)| .obj _=>∃E,h' k=some (.obj E)| .arr sz xs _=>∃C st',h' k=some (.arr sz C st')/\xs.length=ln C| .dead=>h' k=some .dead) (hβ:∀k,k∈K->β' k=β k) (hD:∀b,b<w.heap.size->¬xX X β b->¬D' b) (W:∀k,¬k∈K->∀b n,(b,n)∈β k->¬D' b)
 (hv:yK w (xX X β) h β v c):yK w D' h' β' (wQ K h v) c:=by
 have U:∀{cs:List AV} {c:Array Value} (O:∀(i:Nat) v,cs[i]? =some v->yK w D' h' β' (wQ K h v) (c.getD i undef))
   (i:Nat) v,(kJ K h cs)[i]? =some v->yK w D' h' β' v (c.getD i undef):=λO i v hv=>by
  rw[YE,zAs]at hv;obtain⟨u,hu,rfl⟩:=hv;exact O i u hu
 have G:∀{v c},xS w (xX X β) v c->xS w D' v c:=λV=>V.evo (zAg _) λb hb hd=>⟨rfl,hD b hb hd⟩
 have z:∀{k},K.contains k=true↔k∈K:=λ{k}=>by simp
 induction hv with
 | fz v c V=>
  have:xS w D' (wQ K h v) c:=by
   have h2:∀{v c},xS w (xX X β) v c->xS w D' (wQ K h v) c:=by
    intro v c V
    induction V with
    |bot c=>exact .bot c
    |gh n c=>exact .gh n c
    |s v=>exact .s v
    | agg cs c hl h1 _ O=>
     exact .agg _ c (by rw[uO];exact hl) h1 λi v hv=>by
      rw[YE,zAs]at hv
      grind
    |nil a cap=>exact .nil _ _
    |nil1 a cap=>exact .nil1 _ _
    |sl nn xs b o sz cap f hx hL hc hh _=>exact G (.sl nn xs b o sz cap f hx hL hc hh)
    |slc cap xs b o sz f hL hc hh _=>exact G (.slc cap xs b o sz f hL hc hh)
    |fp xs b o sz i off f hL hi Y hh _=>exact G (.fp xs b o sz i off f hL hi Y hh)
    |fm ob p b x Y hl hd hx hp=>exact G (.fm ob p b x Y hl hd hx hp)
   exact h2 V
  exact .fz _ _ this
 |agg cs c hl h1 _ O=>exact .agg _ c (by rw[uO];exact hl) h1 (U O)
 |fn f caps c hl _ O=>exact .fn f _ c (by rw[uO];exact hl) (U O)
 |tup vs c hl _ O=>exact .tup _ c (by rw[uO];exact hl) (U O)
 |dref k off len c hk' h1=>
  unfold wQ
  cases hc:K.contains k with
  |true=>exact .dref _ _ _ _ (hk k (z.1 hc) _ hk') h1
  |false=>simp only[hk',zCc];exact .fz _ _ (.bot _)
 |dptr k i off c hk' h1=>
  unfold wQ
  cases hc:K.contains k with
  |true=>exact .dptr _ _ _ _ (hk k (z.1 hc) _ hk') h1
  |false=>exact .fz _ _ (.bot _)
 | ref k off len sz xs st b n cap hk' hb hn R hs=>
  unfold wQ
  cases hc:K.contains k with
  |true=>obtain⟨C,st',B,_⟩:=hk k (z.1 hc) _ hk';exact .ref k off len sz C st' b n cap B (by rw[hβ k (z.1 hc)];exact hb) hn R hs
  | false=>
   simp only[hk',zCc];have ap:¬k∈K:=λh=>by rw[z.2 h]at hc;cases hc
   have M:=W k ap;obtain⟨g1,g2,g3,g4,g5,f,g6,g7,g8⟩:=H.ent k _ hk'
   have ax:n<=ln xs:=by
    cases hbk:β k with
    |nil=>rw[hbk]at hb;simp at hb
    |cons q rr=>
     obtain⟨b0,n0⟩:=q;obtain⟨e1,_,e3⟩:=g5 b0 n0 rr hbk;rw[hbk]at hb;simp at hb
     rcases hb with⟨_,rfl⟩|hb
     .omega
     .exact zE2 (e3 b n hb)
   cases S:st.nest with
   | true=>
    simp only[zBr]
    cases ar:wU (vA K h xs)with
    |false=>exact .fz _ _ (.bot _)
    |true=>
    simp only[zBr];have ac:(vA K h xs).length=ln xs:=jC K h xs;have hl:(((vA K h xs).drop off).take len).length=len:=by simp[ac];omega
    by_cases hz:len=0
    .subst hz;simp only[zDi];exact .fz _ _ (.nil _ _)
    have I:∀(i:Nat) y,(((vA K h xs).drop off).take len)[i]? =some y->∃x,xs[off+i]? =some x/\y=kI K h x:=λi y A=>by
     rw[zB3]at A;split at A
     .rw[zCt,ZE,zAs]at A;obtain⟨x,hx,rfl⟩:=A;exact⟨x,hx,rfl⟩
     .cases A
    obtain⟨cc,el,e1,e2,e3,_⟩:=g8 b n hb
    have:=xS.sl (w:=w) (D:=D') false (((vA K h xs).drop off).take len) b (off*sz) sz cap (λi j=>f (off+i) j) (λh0=>hz (by rw[<-hl,h0];rfl))
     ⟨H.lt b (.inr ⟨k,n,hb⟩),M b n hb,g1,by rw[hl];omega,λi y A=>by
      obtain⟨x,hx,rfl⟩:=I i y A;rw[KW,jC]
      exact g4 _ x hx,λi j hi hj=>by
      rw[hl]at hi;rw[kF e1,show off*sz+i*sz+j=(off+i)*sz+j by rw[zBq]]
      exact e3 _ _ (by omega) hj,λi j hi hj=>g7 _ _ Tg hj⟩ (by rw[hl];exact R) (λi y j v A hv=>by
      obtain⟨x,hx,rfl⟩:=I i y A;have av:(kI K h x).nokey=true:=gI ar (show(vA K h xs)[off+i]? =some (kI K h x) by rw[ZE,hx];rfl);have au:v.nokey=true:=gI (OS av) hv;rw[KW,ZE,zAs]at hv;obtain⟨u,hu,rfl⟩:=hv
      exact(yK.fz0 H hk hβ hD (g6.toV _ x j u hx hu) λk' _=>by
       by_cases B:k'∈K
       .exact .inl B
       .exact .inr (W k' B)).toF au)
    rw[hl]at this;exact .fz _ _ this
   |false=>
   simp only[zCc];have hl:((xs.drop off).take len).length=len:=by simp;omega
   by_cases hz:len=0
   .subst hz;simp only[zDi];exact .fz _ _ (.nil _ _)
   .have I:∀(i:Nat) y,((xs.drop off).take len)[i]? =some y->xs[off+i]? =some y:=λi y A=>by
     rw[zB3]at A;split at A
     .rwa [zCt]at A
     .cases A
    obtain⟨cc,el,e1,e2,e3,_⟩:=g8 b n hb
    have:=xS.sl (w:=w) (D:=D') false ((xs.drop off).take len) b (off*sz) sz cap (λi j=>f (off+i) j) (λh0=>hz (by rw[<-hl,h0];rfl))
     ⟨H.lt b (.inr ⟨k,n,hb⟩),M b n hb,g1,by rw[hl];omega,λi y A=>g4 _ y (I i y A),λi j hi hj=>by
      rw[hl]at hi;rw[kF e1,show off*sz+i*sz+j=(off+i)*sz+j by rw[zBq]]
      exact e3 _ _ (by omega) hj,λi j hi hj=>g7 _ _ Tg hj⟩ (by rw[hl];exact R) (λi y j v A hv=>G (g6.toF S _ y j v (I i y A) hv))
    rw[hl]at this;exact .fz _ _ this
 | ref0 k off sz xs st a hk' hn=>
  unfold wQ
  cases hc:K.contains k with
  |true=>obtain⟨C,st',B,ag⟩:=hk k (z.1 hc) _ hk';exact .ref0 k off sz C st' a B (ag▸hn)
  | false=>
   simp only[hk',zCc,zDi]
   cases st.nest with
   |true=>
    simp only[zBr]
    cases wU (vA K h xs)with
    |true=>exact .fz _ _ (.nil _ _)
    |false=>exact .fz _ _ (.bot _)
   |false=>exact .fz _ _ (.nil _ _)
 | pbox k off cs b n hk' hb=>
  unfold wQ
  cases hc:K.contains k with
  |true=>
   obtain⟨E,h2⟩:=hk k (z.1 hc) _ hk';exact .pbox k off E b n h2 (by rw[hβ k (z.1 hc)];exact hb)
  |false=>exact .fz _ _ (.bot _)
 |parr k i off sz xs st b n hk' hb hi Y=>
  unfold wQ
  cases hc:K.contains k with
  |true=>obtain⟨C,st',B,_⟩:=hk k (z.1 hc) _ hk';exact .parr k i off sz C st' b n B (by rw[hβ k (z.1 hc)];exact hb) hi Y
  |false=>exact .fz _ _ (.bot _)
def qE (K:List Nat) (h:yS):wB->wB
 | .box cs=> .box (kJ K h cs)
 | .obj cs=> .obj cs
 | .arr sz xs fl=>bif fl.nest then .arr sz (kJ K h xs) ⟨fl.stale,!wU (kJ K h xs)⟩else .arr sz xs fl
 | .dead=> .dead
def bQ (K:List Nat) (h:yS) (sz:Nat) (xs:List AV) (fl:Fl):∃u z,qE K h (.arr sz xs fl)= .arr sz u z/\u.length=ln xs:=by
 cases A:fl.nest with
 |true=>exact⟨_,_,by simp only[qE,A,zBr];rfl,uO K h xs⟩
 |false=>exact⟨_,_,by simp only[qE,A,zCc];rfl,rfl⟩
theorem ig {K:List Nat} (hv:wQ K h v= .gh i):v= .gh i:=by
 cases v<;>first
  |exact hv
  |(simp[wQ]at hv;done)
  |skip
 all_goals
  exfalso;rename_i k _ _;unfold wQ at hv
  grind
def vH (K:List Nat) (h:yS):List (Nat×wB)
 :=K.filterMap λk=>(h k).map λe=>(k,qE K h e)
def restr (K u:List Nat) (st:St):St:=⟨u.map λt=>(t,wQ K (zE st.h) (zM st.tm t)),vH K (zE st.h)⟩
def wY (K:List Nat) (h:yS) (k:Nat):zE (vH K h) k=if k∈K then(h k).map (qE K h)else none:=by
 unfold vH;generalize qE K h=g
 induction K with
 |nil=>rfl
 | cons j K u=>
  rw[List.filterMap_cons]
  cases hj:h j with
  |none=>
   grind
  |some e=>
   simp only[zB8,xN,u,zBv]
   grind
theorem bR (K u:List Nat) (st:St) (t:Nat):zM (restr K u st).tm t=if t∈u then wQ K (zE st.h) (zM st.tm t)else .bot:=by
 unfold restr;dsimp only;generalize wQ K (zE st.h)=g
 induction u with
 |nil=>rfl
 |cons j u z=>
  grind [zM,restr,wQ,zE,xL]
theorem gW.restr (H:gW X h β w) (K:List Nat):
  gW X (zE (vH K h)) (λk=>if k∈K then β k else []) w/\∀v c,yK w (xX X β) h β v c->yK w (xX X λk=>if k∈K then β k else []) (zE (vH K h)) (λk=>if k∈K then β k else []) (wQ K h v) c:=by
 have A:∀b,xX X (λk=>if k∈K then β k else []) b->xX X β b:=λb hd=>by
  rcases hd with hx|⟨k,n,z⟩
  .exact .inl hx
  ·(try dsimp only at z)
   split at z
   .exact .inr ⟨k,n,z⟩
   .simp at z
 have hv:∀v c,yK w (xX X β) h β v c->yK w (xX X λk=>if k∈K then β k else []) (zE (vH K h)) (λk=>if k∈K then β k else []) (wQ K h v) c:=λv c hv=>by
  refine yK.frz H (K:=K) (λk hk e B=>?_) (λk hk=>by simp[hk]) (λb _ hd h'=>hd (A b h')) (λk hk b n z=>?_) hv
  .rw[wY,Os hk,B]
   cases e with
   |box cs=>exact⟨_,rfl⟩
   |obj cs=>exact⟨_,rfl⟩
   |arr sz xs fl=>
    cases I:fl.nest with
    |true=>exact⟨_,_,by simp only[zB8,qE,I,zBr];rfl,(uO K h xs).symm⟩
    |false=>exact⟨_,_,by simp only[zB8,qE,I,zCc];rfl,rfl⟩
   |dead=>rfl
  .rintro(hx|⟨k',n',C⟩)
   .exact H.free k b n z hx
   ·(try dsimp only at C)
    split at C
    .rename_i hk';exact hk (H.disj k k' b n n' z C▸hk')
    .simp at C
 have ef:∀{v c},xS w (xX X β) v c->xS w (xX X λk=>if k∈K then β k else []) v c:=λhf=>hf.evo (zAg _) λb _ hd=>⟨rfl,λh'=>hd (A b h')⟩
 refine⟨⟨λk e B=>?_,λk B=>?_,λk k' b n n' h1 h2=>?_,λk b n z=>?_,λb hd=>H.lt b (A b hd)⟩,hv⟩
 .rw [wY]at B;split at B
  .rename_i hk;rw[zAs]at B;obtain⟨U,R,rfl⟩:=B;have:=H.ent k U R
   cases U with
   |dead=>show(if k∈K then β k else [])=[];rw[Os hk];exact this
   |box cs=>
    obtain⟨b,c,el,h1,h2,h3,h4,h5⟩:=this;refine⟨b,c,el,by(try dsimp only);rw[Os hk];exact h1,h2,by rw[uO];exact h3,h4,λi v hi=>?_⟩;rw[YE,zAs]at hi;obtain⟨u,S,rfl⟩:=hi;exact hv u _ (h5 i u S)
   |obj cs=>
    exact⟨by(try dsimp only);rw[Os hk];exact this.1,this.2⟩
   | arr sz xs st=>
    obtain⟨V,W,Y,g4,g5,f,g6,g7,g8⟩:=this
    cases I:st.nest with
    |false=>
     simp only[qE,I,zCc];exact⟨V,W,by(try dsimp only);rw[Os hk];exact Y,g4,by(try dsimp only);rw[Os hk];exact g5,f,.ofF λi x j v hx E=>ef (g6.toF I i x j v hx E),g7,by(try dsimp only);rw[Os hk];exact g8⟩
    | true=>
     simp only[qE,I,zBr];have hl:=uO K h xs
     have M:∀(i:Nat) y,(kJ K h xs)[i]? =some y->∃x,xs[i]? =some x/\y=wQ K h x:=λi y E=>by
      rw[YE,zAs]at E;obtain⟨x,hx,rfl⟩:=E;exact⟨x,hx,rfl⟩
     refine⟨V,by rw[hl];exact W,λO=>by(try dsimp only);rw[Os hk];exact Y (λh1=>O (by rw[h1];rfl)),λi y E=>?_,by(try dsimp only);rw[Os hk,hl];exact g5,f,λi y j v E G=>?_,by rw[hl];exact g7,by(try dsimp only);rw[Os hk];exact g8⟩
     .obtain⟨x,hx,rfl⟩:=M i y E;rw[KX,uO];exact g4 i x hx
     .obtain⟨x,hx,rfl⟩:=M i y E
      have hR:yK w (xX X λk=>if k∈K then β k else []) (zE (vH K h)) (λk=>if k∈K then β k else []) v (f i j):=by
       rw[KX,YE,zAs]at G;obtain⟨u,S,rfl⟩:=G;exact hv u _ (g6.toV i x j u hx S)
      exact⟨hR,λO=>hR.toF (gI (OS (gI (by simpa using O) E)) G)⟩
  .cases B
 ·(try dsimp only)
  split
  .rename_i hk;rw[wY,Os hk]at B
   cases hk':h k with
   |none=>exact H.off k hk'
   |some e=>simp[hk']at B
  .rfl
 ·(try dsimp only at h1 h2)
  split at h1<;>split at h2
  .exact H.disj _ _ _ _ _ h1 h2
  .simp at h2
  all_goals simp at h1
 ·(try dsimp only at z)
  split at z
  .exact H.free k b n z
  .simp at z
theorem wT.restrM {F:Fr K0} {st:St} (R:wT F m st a w) (K W:List Nat) (hK:K0.all (K.contains ·)=true) {A:Nat->AV} (hg:A GS=zM (restr K W st).tm GS)
 (ht:∀t,A t=zM (restr K W st).tm t\/∃k b p,zE st.h k=some (.obj (b,p))/\¬k∈K/\zM st.tm t= .s (.map (some b))/\A t= .fm none p):QG F m A (zE (restr K W st).h) a w:=by
 obtain⟨⟨X,β,hX,H,Ht,z,hJ,hD⟩,nd,gs,hl⟩:=R;obtain⟨H',hv⟩:=H.restr K;refine⟨⟨X,_,hX,H',λt=>?_,⟨λk e I=>?_,z.size,z.keep,λk b n u=>?_,λk b n u=>?_,z.bs,z.os,z.tape,z.output⟩,λi hi=>?_,hD⟩,λk=>?_,gs,hl⟩
 .rcases ht t with e|⟨k,b,p,h1,h2,S,C⟩
  .rw[e,bR];split
   .exact hv _ _ (Ht t)
   .exact .fz _ _ (.bot _)
  .obtain⟨g1,x,g2,g3⟩:=H.ent k _ h1;have hc:=Ht t;rw[S]at hc;rw[C]
   have e:a.eval (.tmp t)= .map (some b):=by
    generalize a.eval (.tmp t)=c at hc
    cases hc with
    |fz _ _ hf=>cases hf;rfl
   rw[e];have u:(b,0)∈β k:=by rw[g1];exact zBf.2 Z
   refine .fz _ _ (.fm none p b x (λn h=>by cases h) (H.lt b (.inr ⟨k,0,u⟩)) (λhd=>?_) g2 g3)
   rcases hd with hx|⟨j,n,hj⟩
   .exact H.free k b 0 u hx
   ·(try dsimp only at hj)
    split at hj
    .rename_i E;rw[<-H.disj k j b 0 n u hj]at E;exact h2 E
    .simp at hj
 .have hk:k∈K:=by
   have:=zAq.1 hK k (F.hh k e I);simpa using this
  have h1:=z.knd k e I;have U:∀O,zE st.h k=some O->zE (vH K (zE st.h)) k=some (qE K (zE st.h) O):=λO h2=>by rw[wY,Os hk,h2];rfl
  cases e with
  |dead=>exact h1
  |box cs=>obtain⟨M,h2⟩:=h1;exact⟨_,U _ h2⟩
  |obj cs=>obtain⟨M,h2⟩:=h1;exact⟨_,U _ h2⟩
  |arr sz xs sl=>obtain⟨Y,V,h2,S⟩:=h1;obtain⟨G,B,C,h5⟩:=bQ K (zE st.h) sz Y V;exact⟨G,B,(U _ h2).trans (by rw[C]),by rw[h5];exact S⟩
 ·(try dsimp only at u)
  split at u
  .exact z.own k b n u
  .simp at u
 .have hk:k∈K:=by
   have:=zAq.1 hK k (F.hK k b n u);simpa using this
  (try dsimp only)
  rw[Os hk];exact z.pas k b n u
 .rw[hg,bR]at hi;split at hi
  .have h1:zM st.tm GS= .gh i:=ig hi;refine F.Jst i _ X w w _ (hJ i h1) (zAg _) (λ_ _ _=>rfl) (λb hb=>?_) (λb hb=>?_) Z Z Z
   .obtain⟨k,n,u⟩:=hb
    (try dsimp only at u)
    split at u
    .exact .inl ⟨k,n,u⟩
    .simp at u
   .obtain⟨k,n,u⟩:=hb;exact H'.lt b (.inr ⟨k,n,u⟩)
  .cases hi
 .show zE (vH K (zE st.h)) k≠some .dead
  rw[wY];split
  .intro h;rw[zAs]at h;obtain⟨e,I,h2⟩:=h
   cases e with
   |dead=>exact nd k I
   |box cs=>cases h2
   |obj cs=>cases h2
   |arr a b c=>obtain⟨G,B,C,_⟩:=bQ K (zE st.h) a b c;rw[C]at h2;cases h2
  .intro h;cases h
theorem wT.restr {F:Fr K0} {st:St} (R:wT F m st a w) (K u:List Nat) (z:K0.all (K.contains ·)=true):wT F m (restr K u st) a w:=
 R.restrM K u z Z λ_=> .inl Z
def ZF (P:Program) (f:Nat):Prop:=∀(args:Array Value) (w:World),(callFunc f args).run P w= .ok (.enter f args) w
structure xR (P:Program) (f:Nat) (args:List AV) (h0:List (Nat×wB)) (r:AV) (h1:List (Nat×wB)):Prop where
 able:ZF P f
 nd:∀k,zE h1 k≠some .dead
 sim:∀(X:Nat->Prop) (w:World) (β:qG) (cargs:Array Value),cargs.size=args.length->gW X (zE h0) β w->(∀(i:Nat) v,args[i]? =some v->yK w (xX X β) (zE h0) β v (cargs.getD i undef))->
  Calls P f cargs w λe w'=>∃c β',e= .returned c/\wG X w (zE h0) β w' (zE h1) β'/\yK w' (xX X β') (zE h1) β' r c
def wB.nosl:wB->Bool
 | .box cs=>KV cs
 | .obj cs=>true
 | .arr _ xs _=>KV xs
 | .dead=>true
variable {d h0 h1:List (Nat×wB)}{e:wB}
def GI:List (Nat×wB)->Bool
 | []=>true
 |(_,e)::r=>e.nosl&&GI r
theorem Ya:∀{h:List (Nat×wB)} {k:Nat} {e:wB},GI h=true->zE h k=some e->e.nosl=true
 | [],k,e,_,u=>by simp[zE]at u
 |(j,e0)::r,k,e,hn,u=>by
  simp[GI]at hn;rw[xN]at u;split at u
  .cases u;exact hn.1
  .exact Ya hn.2 u
def xD (h:List (Nat×wB)):List Nat:=h.map (·.1)
theorem uS:∀{h:List (Nat×wB)} {k:Nat} {e:wB},zE h k=some e->k∈xD h
 | [],k,e,u=>by simp[zE]at u
 |(j,e0)::r,k,e,u=>by
  rw[xN]at u;split at u
  .rename_i h;simp[xD,h]
  .have:=uS u;simp[xD]at this⊢;exact .inr this
theorem ZG:∀{h:List (Nat×wB)} {k:Nat},k∈xD h->∃e,zE h k=some e
 | [],k,hk=>by simp[xD]at hk
 |(j,e0)::r,k,hk=>by
  rw[xN];split
  .exact⟨_,rfl⟩
  .rename_i h;simp only[xD,zBk,zBv]at hk;exact ZG (hk.resolve_left h)
theorem bS:∀{h:List (Nat×wB)} {k:Nat} {e:wB},zE h k=some e->∃p∈h,p.2=e
 | [],k,e,u=>by simp[zE]at u
 |(j,e0)::r,k,e,u=>by
  rw[xN]at u;split at u
  .cases u;exact⟨(j,e0),by simp,rfl⟩
  .obtain⟨p,z,h2⟩:=bS u;exact⟨p,by simp[z],h2⟩
def Ix (u:List Nat):wB->Bool
 | .box cs=>(gQ cs).all (u.contains ·)
 | .obj cs=>true
 | .arr _ xs fl=>bif fl.nest then(gQ xs).all (u.contains ·)else true
 | .dead=>true
def TX {x:AV} (h:x.cells[j]? =some v) (hk:k∈v.refs):k∈x.refs:=by
 cases x<;>first
  |(simp[AV.cells]at h;cases j<;>simp at h;subst h;exact hk)
  |exact vB h hk
def E8 (K:List Nat) (h:yS) (v:AV):AV:=YY (kI K h v)
def Ru {ρ:Operand->Value} {u:Array Value} (g:Operand->AV) (hc:u.size=ln caps) (h:(args.toList.map g++caps)[i]? =some v):
  (∃x,x∈args/\g x=v/\(args.map ρ++u).getD i undef=ρ x)\/∃j,caps[j]? =some v/\(args.map ρ++u).getD i undef=u.getD j undef:=by
 by_cases hi:i<args.size
 .rw[zBg Pa,zAi,zAs]at h;obtain⟨x,hx,rfl⟩:=h;have z:args[i]? =some x:=by simpa using hx
  refine .inl ⟨x,Array.mem_of_getElem? z,rfl,dU ?_⟩
  grind
 .rw[zBc uH]at h;refine .inr ⟨i-args.size,by simpa using h,?_⟩;have A:i-args.size<ln caps:=by simpa using (zAz.1 h).1
  apply dU
  grind [Array.getElem?_append_right,gJ]
section
variable {P:Program} {st:St}
def bo {Xc:Nat->Prop} {z:qG} (hh:∀k e,h k=some e->h' k=some e/\β' k=z k) (E:∀b,xX X β' b->b<w'.heap.size->xX Xc z b\/False) (hv:yK w' (xX Xc z) h z v c):yK w' (xX X β') h' β' v c:=by
 have C:∀{v c},xS w' (xX Xc z) v c->xS w' (xX X β') v c:=λA=>A.evo (zAg _) λb hb hd=>⟨rfl,λh'=>hd ((E b h' hb).resolve_right id)⟩
 induction hv with
 |fz v c A=>exact .fz _ _ (C A)
 |agg cs c hl h1 _ u=>exact .agg cs c hl h1 u
 |fn f caps c hl _ u=>exact .fn f caps c hl u
 |tup vs c hl _ u=>exact .tup vs c hl u
 |dref k off len c hk h1=>exact .dref _ _ _ _ (hh k _ hk).1 h1
 |dptr k i off c hk h1=>exact .dptr _ _ _ _ (hh k _ hk).1 h1
 |ref k off len sz xs st b n cap hk hb B hc hs=>exact .ref k off len sz xs st b n cap (hh k _ hk).1 (by rw[(hh k _ hk).2];exact hb) B hc hs
 |ref0 k off sz xs st a hk B=>exact .ref0 k off sz xs st a (hh k _ hk).1 B
 |pbox k off cs b n hk hb=>exact .pbox k off cs b n (hh k _ hk).1 (by rw[(hh k _ hk).2];exact hb)
 |parr k i off sz xs st b n hk hb hi G=>exact .parr k i off sz xs st b n (hh k _ hk).1 (by rw[(hh k _ hk).2];exact hb) hi G
def Yi {Xc:Nat->Prop} {A:qG} (hh:∀k e,h k=some e->h' k=some e/\β' k=A k) (hv:yK w' (xX Xc A) h A v c):v.nosl=true->yK w' (xX X β') h' β' v c:=by
 induction hv with
 |fz v c B=>exact λu=> .fz _ _ (B.free u)
 |agg cs c hl h1 _ z=>exact λu=> .agg cs c hl h1 λi v hv=>z i v hv (cB (by simpa [AV.nosl]using u) hv)
 |fn f caps c hl _ z=>exact λu=> .fn f caps c hl λi v hv=>z i v hv (cB (by simpa [AV.nosl]using u) hv)
 |tup vs c hl _ z=>exact λu=> .tup vs c hl λi v hv=>z i v hv (cB (by simpa [AV.nosl]using u) hv)
 |dref k off len c hk h1=>exact λ_=> .dref _ _ _ _ (hh k _ hk).1 h1
 |dptr k i off c hk h1=>exact λ_=> .dptr _ _ _ _ (hh k _ hk).1 h1
 |ref k off len sz xs st b n cap hk hb u hc hs=>exact λ_=> .ref k off len sz xs st b n cap (hh k _ hk).1 (by rw[(hh k _ hk).2];exact hb) u hc hs
 |ref0 k off sz xs st a hk u=>exact λ_=> .ref0 k off sz xs st a (hh k _ hk).1 u
 |pbox k off cs b n hk hb=>exact λ_=> .pbox k off cs b n (hh k _ hk).1 (by rw[(hh k _ hk).2];exact hb)
 |parr k i off sz xs st b n hk hb hi C=>exact λ_=> .parr k i off sz xs st b n (hh k _ hk).1 (by rw[(hh k _ hk).2];exact hb) hi C
theorem UW.lift (hb:β' k=β k) (hv:∀cs,e= .box cs->∀(i:Nat) v c,cs[i]? =some v->yK w D h β v c->yK w D' h' β' v c)
 (I:∀sz xs st,e= .arr sz xs st->∀(i:Nat) (x:AV) (j:Nat) v c,xs[i]? =some x->x.cells[j]? =some v->(xS w D v c->xS w D' v c)/\(st.nest=true->yK w D h β v c->yK w D' h' β' v c)) (H:UW w D h β k e):UW w D' h' β' k e:=by
 cases e with
 |dead=>exact hb.trans H
 |box cs=>
  obtain⟨b,c,E,h1,h2,B,u,C⟩:=H;exact⟨b,c,E,hb.trans h1,h2,B,u,λi v hi=>hv cs Z i v _ hi (C i v hi)⟩
 |obj cs=>
  exact⟨hb.trans H.1,H.2⟩
 | arr sz xs st=>
  obtain⟨h1,h2,B,u,C,f,z,G,O⟩:=H
  exact⟨h1,h2,by rwa [hb],u,by rwa [hb],f,λi x j v hx hv=>by
   obtain⟨q1,M⟩:=I sz xs st Z i x j v (f i j) hx hv
   cases A:st.nest with
   |true=>exact⟨M A (z.toV i x j v hx hv),λh=>by cases h⟩
   |false=>exact⟨.fz _ _ (q1 (z.toF A i x j v hx hv)),λ_=>q1 (z.toF A i x j v hx hv)⟩,G,by rwa [hb]⟩
theorem gG {b4:Array Nat} {b3:List AV} (hc:xR P f b3 h0 r h1) (hx:yY (zM st.tm) x= .fn f caps)
 (b7:(args.toList.map (yY (zM st.tm))++caps).map (kI (xD h0) (zE st.h))=b3) (cq:(xD h0).map (zE st.h)=(xD h0).map (zE h0)) (cm:h0.all (λp=>Ix (xD h0) p.2)=true)
 (cb:((gQ (args.toList.map (yY (zM st.tm))++caps)).all ((xD h0).contains ·)||(r.nosl&&GI h1))=true):
  vC P st (.call ⟨.value x,args,b4⟩) r h1 (xD h0++gQ (args.toList.map (yY (zM st.tm))++caps)) ((xD h1).filter λk=>!(xD h0).contains k):=by
 refine⟨?_⟩;intro X tm h hg I hn o a w β ho O Ht;obtain⟨d0,o0,y0,p0,f0,g0⟩:=o;dsimp only at ho;subst ho;have ca:=cC Ht hg (x:=x) gH hx
 obtain⟨cv,cp,a7,cn⟩:∃cv:Array Value,a.eval x= .func (.func f) #[] cv/\cv.size=ln caps/\∀(i:Nat) v,caps[i]? =some v->yK w (xX X β) h β v (cv.getD i undef):=by
  generalize a.eval x=cx at ca
  cases ca with
  |fz _ _ hf=>cases hf
  |fn _ _ c hl hh=>exact⟨c,rfl,hl,hh⟩
 have cf:(execOp a.eval ⟨d0,.call ⟨.value x,args,b4⟩,y0,p0,f0,g0⟩).run P w= .ok (.enter f (args.map a.eval++cv)) w:=by
  have cl:=hc.able (args.map a.eval++cv) w;simp[execOp,resolve,cp,Deferred.ofValue,invoke,cl]
 rw[cf]
 have hK:∀k,k∈xD h0->h k=zE h0 k:=λk hk=>by
  rw[I k (by simp[hk])];obtain⟨i,hi⟩:=zDz hk;have:=zAv (·[i]?) cq
  grind
 have bu:∀k,zE h0 k=none->¬k∈xD h0:=λk hk z=>by
  obtain⟨e,A⟩:=ZG z
  grind
 let βc:qG:=λk=>if k∈xD h0 then β k else []
 have U:∀k,k∈xD h0->βc k=β k:=λk hk=>by simp[βc,hk]
 have cj:∀k,¬k∈xD h0->βc k=[]:=λk hk=>by simp[βc,hk]
 have Y:∀k b n,(b,n)∈βc k->k∈xD h0/\(b,n)∈β k:=λk b n z=>by
  by_cases hk:k∈xD h0
  .rw[U k hk]at z;exact⟨hk,z⟩
  .rw[cj k hk]at z;simp at z
 let B:Bool:=!(gQ (args.toList.map (yY (zM st.tm))++caps)).all ((xD h0).contains ·)
 let Xc:Nat->Prop:=λb=>X b\/(B=false/\∃k n,¬k∈xD h0/\(b,n)∈β k)
 have a1:∀b,xX Xc βc b->xX X β b:=λb hd=>by
  rcases hd with(hx|⟨_,k,n,_,z⟩)|⟨k,n,z⟩
  .exact .inl hx
  .exact .inr ⟨k,n,z⟩
  .exact .inr ⟨k,n,(Y k b n z).2⟩
 have S:∀k e,zE h0 k=some e->Ix (xD h0) e=true:=λk e hk=>by
  obtain⟨p,hp,A⟩:=bS hk;have:=zAq.1 cm p hp;rw[A]at this;exact this
 have b9:∀{v c},yK w (xX X β) h β v c->(∀k,k∈v.refs->k∈xD h0\/∀b n,(b,n)∈β k->¬xX Xc βc b)->yK w (xX Xc βc) (zE h0) βc (kI (xD h0) h v) c:=λhv cu=>
  yK.fz0 O (λk hk e A=>by
   rw[hK k hk]at A
   cases e with
   |box cs=>exact⟨cs,A⟩
   |obj cs=>exact⟨cs,A⟩
   |arr sz xs fl=>exact⟨xs,fl,A,rfl⟩
   |dead=>exact A) U (λb _ hd h'=>hd (a1 b h')) hv cu
 have a6:∀{v c},yK w (xX X β) h β v c->(∀k,k∈v.refs->k∈xD h0)->yK w (xX Xc βc) (zE h0) βc v c:=by
  intro v c hv;have ef:∀{v c},xS w (xX X β) v c->xS w (xX Xc βc) v c:=λhf=>hf.evo (zAg _) λb _ hd=>⟨rfl,λh'=>hd (a1 b h')⟩
  induction hv with
  |fz v c hf=>exact λ_=> .fz _ _ (ef hf)
  |agg cs c hl h1 _ ih=>exact λI=> .agg cs c hl h1 λi v hv=>ih i v hv λk hk=>I k (by simpa [AV.refs]using vB hv hk)
  |fn f caps c hl _ ih=>exact λI=> .fn f caps c hl λi v hv=>ih i v hv λk hk=>I k (by simpa [AV.refs]using vB hv hk)
  |tup vs c hl _ ih=>exact λI=> .tup vs c hl λi v hv=>ih i v hv λk hk=>I k (by simpa [AV.refs]using vB hv hk)
  |dref k off len c hk h1=>exact λI=> .dref _ _ _ _ ((hK k (I k (by simp[AV.refs])))▸hk) h1
  |dptr k i off c hk h1=>exact λI=> .dptr _ _ _ _ ((hK k (I k (by simp[AV.refs])))▸hk) h1
  |ref k off len sz xs st b n cap hk hb hn hc hs=>exact λI=> .ref k off len sz xs st b n cap ((hK k (I k (by simp[AV.refs])))▸hk) (by rw[U k (I k (by simp[AV.refs]))];exact hb) hn hc hs
  |ref0 k off sz xs st a hk hn=>exact λI=> .ref0 k off sz xs st a ((hK k (I k (by simp[AV.refs])))▸hk) hn
  |pbox k off cs b n hk hb=>exact λI=> .pbox k off cs b n ((hK k (I k (by simp[AV.refs])))▸hk) (by rw[U k (I k (by simp[AV.refs]))];exact hb)
  |parr k i off sz xs st b n hk hb hi ho=>exact λI=> .parr k i off sz xs st b n ((hK k (I k (by simp[AV.refs])))▸hk) (by rw[U k (I k (by simp[AV.refs]))];exact hb) hi ho
 have Hc:gW Xc (zE h0) βc w:=by
  refine⟨λk e A=>?_,λk A=>cj k (bu k A),λk M b n C q1 q2=>O.disj _ _ _ _ _ (Y _ _ _ q1).2 (Y _ _ _ q2).2,λk b n z hx=>?_,λb hd=>O.lt b (a1 b hd)⟩
  .have hk:=uS A
   refine(O.ent k e ((hK k hk).trans A)).lift (U k hk) (λcs bf i v c hi hv=>a6 hv λj hj=>by
    have:=S k e A;rw[bf]at this
    simpa using zAq.1 this j (vB hi hj)) λsz xs fl b0 i x j v c hi hj=>⟨λhf=>hf.evo (zAg _) λb _ hd=>⟨rfl,λh'=>hd (a1 b h')⟩,λhn hv=>a6 hv λq hq=>by
    have:=S k e A;rw[b0]at this;simp only[Ix,hn,zBr]at this
    simpa using zAq.1 this q (vB hi (TX hj hq))⟩
  .obtain⟨hk,z⟩:=Y k b n z
   rcases hx with hx|⟨_,M,C,hk',ar⟩
   .exact O.free k b n z hx
   .exact hk' (O.disj k M b n C z ar▸hk)
 have bd:∀(i:Nat) v,(args.toList.map (yY (zM st.tm))++caps)[i]? =some v->yK w (xX X β) h β v ((args.map a.eval++cv).getD i undef):=λi v hi=>by
  rcases Ru (ρ:=a.eval) (yY (zM st.tm)) a7 hi with⟨y,hy,rfl,A⟩|⟨j,hj,A⟩
  .rw[A]
   exact cC Ht hg (by
    simp only[Op.operands,Call.operands,Array.mem_append]
    exact .inr hy) Z
  .rw[A];exact cn j v hj
 have bx:∀(i:Nat) v,(args.toList.map (yY (zM st.tm))++caps)[i]? =some v->∀k,k∈v.refs->k∈xD h0\/∀b n,(b,n)∈β k->¬xX Xc βc b:=λi v hi k hk=>by
  by_cases W:k∈xD h0
  .exact .inl W
  .refine .inr λb n z hd=>?_
   have br:B=true:=by
    cases hl:B with
    |true=>rfl
    |false=>
     simp only[B,Bool.not_eq_false']at hl;have:=zAq.1 hl k (vB hi hk);exact absurd Ug W
   rcases hd with(hx|⟨hf,_⟩)|⟨M,C,ar⟩
   .exact O.free k b n z hx
   .rw[br]at hf;cases hf
   .obtain⟨q1,q2⟩:=Y M b C ar;exact W (O.disj k M b n C z q2▸q1)
 have bk:∀(i:Nat) v,(args.toList.map (yY (zM st.tm))++caps)[i]? =some v->kI (xD h0) (zE st.h) v=kI (xD h0) h v:=by
  have ck:∀v:AV,(∀k,k∈v.refs->h k=zE st.h k)->kI (xD h0) (zE st.h) v=kI (xD h0) h v:=by
   intro v
   refine AV.rec (motive_1:=λv=>(∀k,k∈v.refs->h k=zE st.h k)->kI (xD h0) (zE st.h) v=kI (xD h0) h v)
    (motive_2:=λcs=>(∀k,k∈gQ cs->h k=zE st.h k)->vA (xD h0) (zE st.h) cs=vA (xD h0) h cs) ?_ ?_ ?_ ?_ ?_ ?_ ?_ ?_ ?_ ?_ ?_ ?_ ?_ ?_ v
   .exact λ_=>rfl
   .exact λ_ _=>rfl
   .exact λ_ _=>rfl
   .exact λcs ih hk=>by simp only[kI];rw[ih (by simpa [AV.refs]using hk)]
   .exact λ_ _ _ _=>rfl
   .exact λ_ _ _ _=>rfl
   .exact λk off len hk=>by simp only[kI];rw[hk k (by simp[AV.refs])]
   .exact λ_ _ _ _=>rfl
   .exact λ_ _ _ _ _=>rfl
   .exact λf cs ih hk=>by simp only[kI];rw[ih (by simpa [AV.refs]using hk)]
   .exact λcs ih hk=>by simp only[kI];rw[ih (by simpa [AV.refs]using hk)]
   .exact λ_ _ _=>rfl
   .exact λ_=>rfl
   .exact λv r c0 cw hk=>by
     simp only[vA];rw[c0 λk h=>hk k (by simp[gQ,h]),cw λk h=>hk k (by simp[gQ,h])]
  exact λi v hi=>ck v λk hk=>I k (by simp[vB hi hk])
 have cg:=hc.sim Xc w βc (args.map a.eval++cv) (by rw[<-b7];simp[a7]) Hc (λi v hi=>by
  rw[<-b7,zAi,zAs]at hi;obtain⟨u,hu,rfl⟩:=hi;rw[bk i u hu]
  exact b9 (bd i u hu) (bx i u hu))
 refine Calls.mono cg ?_;rintro e w' ⟨c,β1,A,G,hv⟩;refine⟨c,A,?_⟩;have cr:=G.lives Hc hc.nd
 let β':qG:=λk=>if(zE h1 k).isSome then β1 k else β k
 have a2:∀k e,zE h1 k=some e->β' k=β1 k:=λk e hk=>by simp[β',hk]
 have a3:∀k,zE h1 k=none->β' k=β k:=λk hk=>by simp[β',hk]
 have bl:∀k,k∈xD h0->∃e,zE h1 k=some e:=λk hk=>by
  obtain⟨e,A⟩:=ZG hk
  rcases G.key k e A with h2|h2
  .exact⟨_,h2⟩
  .cases e with
   |dead=>exact h2.elim
   |box cs=>exact⟨_,h2.1.choose_spec⟩
   |obj cs=>exact⟨_,h2.1.choose_spec⟩
   |arr sz xs st=>obtain⟨b2,st',V,_⟩:=h2.1;exact⟨_,V⟩
 have cc:∀k e,zE h1 k=some e->¬k∈xD h0->h k=none:=λk e hk W=>hn k (by
  simp only[zD5,zCx,List.contains_eq_mem,zAk]
  exact⟨uS hk,W⟩)
 have a5:∀k e,zE h1 k=some e->over h1 h k=some e:=λk e hk=>by simp[over,hk]
 have b1:∀k,zE h1 k=none->over h1 h k=h k:=λk hk=>by simp[over,hk]
 have ag:∀k b n,(b,n)∈β' k->((∃e,zE h1 k=some e)/\(b,n)∈β1 k)\/(zE h1 k=none/\¬k∈xD h0/\(b,n)∈β k):=λk b n z=>by
  cases hk:zE h1 k with
  |none=>rw[a3 k hk]at z;exact .inr ⟨rfl,(λh2=>by obtain⟨e,A⟩:=bl k h2;rw[hk]at A;cases A),z⟩
  |some e=>rw[a2 k e hk]at z;exact .inl ⟨⟨e,rfl⟩,z⟩
 have az:∀k b n,(b,n)∈β1 k->(∃M C,M∈xD h0/\(b,C)∈β M)\/w.heap.size<=b:=λk b n z=>by
  rcases G.own k b n z with⟨M,C,h2⟩|h2
  .obtain⟨q1,q2⟩:=Y M b C h2;exact .inl ⟨M,C,q1,q2⟩
  .exact .inr h2
 have av:∀b,b<w.heap.size->(∀k n,k∈xD h0->(b,n)∉β k)->w'.heap[b]? =w.heap[b]? :=λb hb hk=>G.keep b hb λk n z=>by
  obtain⟨q1,q2⟩:=Y k b n z;exact hk k n q1 q2
 have ax:∀k b n,¬k∈xD h0->(b,n)∈β k->w'.heap[b]? =w.heap[b]? :=λk b n hk z=>av b (O.lt b (.inr ⟨k,n,z⟩)) λM C hk' ar=>hk (O.disj k M b n C z ar▸hk')
 have b5:∀k b n,(b,n)∈β k->wW w' b=wW w b:=λk b n z=>by
  by_cases hk:k∈xD h0
  .exact G.bs k b n (by rw[U k hk];exact z)
  .unfold wW World.shape?;rw[ax k b n hk z]
 have a9:∀k e,h k=some e->over h1 h k=some .dead\/match e with
   | .dead=>False
   | .box _=>(∃bb,over h1 h k=some (.box bb))/\∀b n,(b,n)∈β k->(b,n)∈β' k
   | .obj _=>(∃bb,over h1 h k=some (.obj bb))/\∀b n,(b,n)∈β k->(b,n)∈β' k
   | .arr sz xs _=>(∃b2 st',over h1 h k=some (.arr sz b2 st')/\xs.length<=ln b2)/\∀b n,(b,n)∈β k->∃C,n<=C/\(b,C)∈β' k:=λk e A=>by
  by_cases hk:k∈xD h0
  .have co:=(hK k hk)▸A;have:=G.key k e co;obtain⟨e1,ac⟩:=bl k hk;rw[ac]at this;rw[a5 k e1 ac,a2 k e1 ac,<-U k hk];exact this
  .have cd:zE h1 k=none:=by
    cases h2:zE h1 k with
    |none=>rfl
    |some e1=>rw[cc k e1 h2 hk]at A;cases A
   rw[b1 k cd,a3 k cd];exact jS h β k e A
 have ba:∀k b n,(b,n)∈β' k->(∃M C,(b,C)∈β M)\/w.heap.size<=b:=λk b n z=>by
  rcases ag k b n z with⟨_,h2⟩|⟨_,_,h2⟩
  .rcases az k b n h2 with⟨M,C,_,V⟩|V
   .exact .inl ⟨M,C,V⟩
   .exact .inr V
  .exact .inl ⟨k,n,h2⟩
 have au:∀b,b<w.heap.size->(∀k n,(b,n)∉β k)->w'.heap[b]? =w.heap[b]? :=λb hb hk=>av b hb λk n _=>hk k n
 have E:CR w (xX X β) h β w' (xX X β') (over h1 h) β':=by
  refine⟨G.size,λb hb hd=>?_,b5,a9⟩;have q1:∀k n,(b,n)∉β k:=λk n z=>hd (.inr ⟨k,n,z⟩)
  refine⟨au b hb q1,?_⟩;rintro(hx|⟨k,n,z⟩)
  .exact hd (.inl hx)
  .rcases ba k b n z with⟨M,C,h2⟩|h2
   .exact q1 _ _ h2
   .omega
 have ch:∀k e,zE h1 k=some e->over h1 h k=some e/\β' k=β1 k:=λk e hk=>⟨a5 k e hk,a2 k e hk⟩
 have b6:B=false->∀b,xX X β' b->xX Xc β1 b:=λhl b hd=>by
  rcases hd with hx|⟨k,n,z⟩
  .exact .inl (.inl hx)
  .rcases ag k b n z with⟨_,h2⟩|⟨_,h2,V⟩
   .exact .inr ⟨k,n,h2⟩
   .exact .inl (.inr ⟨hl,k,n,h2,V⟩)
 have ap:B=false\/(r.nosl=true/\GI h1=true):=by
  rw[zCm]at cb
  rcases cb with h2|h2
  .left;show(!(_:Bool))=false;rw[h2];rfl
  .right;simpa using h2
 have R:∀{v c},(B=false\/v.nosl=true)->yK w' (xX Xc β1) (zE h1) β1 v c->yK w' (xX X β') (over h1 h) β' v c:=λhl hv=>by
  rcases hl with hl|hl
  .exact bo (h':=over h1 h) ch (λb hd _=> .inl (b6 hl b hd)) hv
  .exact Yi ch hv hl
 have a4:∀{v c},(B=false\/v.nosl=true)->xS w' (xX Xc β1) v c->xS w' (xX X β') v c:=λhl hv=>by
  rcases hl with hl|hl
  .exact hv.evo (zAg _) λb _ hd=>⟨rfl,λh'=>hd (b6 hl b h')⟩
  .exact hv.free hl
 have HK:gW X (over h1 h) β' w':=by
  refine⟨λk e A=>?_,λk A=>?_,λk M b n C q1 q2=>?_,λk b n z hx=>?_,λb hd=>?_⟩
  .cases hk:zE h1 k with
   |none=>
    rw[b1 k hk]at A;have W:¬k∈xD h0:=λh2=>by obtain⟨e1,ac⟩:=bl k h2;rw[hk]at ac;cases ac
    exact(O.ent k e A).evo E (a3 k hk) λb n z=>ax k b n W z
   | some e1=>
    rw[a5 k e1 hk]at A;obtain rfl:=zDm A;have ce:B=false\/e1.nosl=true:=ap.imp id λh2=>Ya h2.2 hk
    refine(G.hok.ent k e1 hk).lift (a2 k e1 hk) (λcs bf i v c hi hv=>R (ce.imp id λh2=>cB (by rw[bf]at h2;exact h2) hi) hv) λsz xs st b0 i x j v c hi hj=>by
     have a8:B=false\/v.nosl=true:=ce.imp id λh2=>by
      have ci:x.nosl=true:=cB (by rw[b0]at h2;exact h2) hi
      cases x<;>first
       |(simp[AV.cells]at hj;cases j<;>simp at hj;subst hj;exact ci)
       |(exact cB (by simpa [AV.nosl,AV.cells]using ci) hj)
     exact⟨λhf=>a4 a8 hf,λ_ hv=>R a8 hv⟩
  .cases hk:zE h1 k with
   |none=>rw[b1 k hk]at A;rw[a3 k hk];exact O.off k A
   |some e1=>rw[a5 k e1 hk]at A;cases A
  .rcases ag k b n q1 with⟨_,h2⟩|⟨_,h2,V⟩<;>rcases ag M b C q2 with⟨_,h4⟩|⟨_,h4,h5⟩
   .exact G.hok.disj _ _ _ _ _ h2 h4
   .rcases az k b n h2 with⟨j,m,hj,z⟩|h6
    .exact absurd (O.disj j M b m C z h5▸hj) h4
    .have:=O.lt b (.inr ⟨M,C,h5⟩);omega
   .rcases az M b C h4 with⟨j,m,hj,z⟩|h6
    .exact absurd (O.disj j k b m n z V▸hj) h2
    .have:=O.lt b (.inr ⟨k,n,V⟩);omega
   .exact O.disj _ _ _ _ _ V h5
  .rcases ag k b n z with⟨_,h2⟩|⟨_,_,V⟩
   .exact G.hok.free k b n h2 (.inl hx)
   .exact O.free k b n V hx
  .rcases hd with hx|⟨k,n,z⟩
   .exact zBn (O.lt b (.inl hx)) G.size
   .rcases ag k b n z with⟨_,h2⟩|⟨_,_,V⟩
    .exact G.hok.lt b (.inr ⟨k,n,h2⟩)
    .exact zBn (O.lt b (.inr ⟨k,n,V⟩)) G.size
 exact⟨β',⟨G.size,au,ba,b5,a9,HK,G.os,G.tape,G.output⟩,R (ap.imp id (·.1)) hv⟩
def zL {C:Array Nat} {A:List AV} (hc:xR P f A h0 r h1) (hx:yY (zM st.tm) x= .fn f caps)
 (B:(args.toList.map (yY (zM st.tm))++caps).map (E8 (xD h0) (zE st.h))=A) (G:(xD h0).map (zE st.h)=(xD h0).map (zE h0)) (E:h0.all (λp=>Ix (xD h0) p.2)=true)
 (I:((gQ (args.toList.map (yY (zM st.tm))++caps)).all ((xD h0).contains ·)||(r.nosl&&GI h1))=true):
  vC P st (.call ⟨.value x,args,C⟩) r h1 (xD h0++gQ (args.toList.map (yY (zM st.tm))++caps)) ((xD h1).filter λk=>!(xD h0).contains k):=
 gG (hc:=⟨hc.able,hc.nd,λX w β z hl H M=>hc.sim X w β z (by rw[hl,<-B];simp) H λi v hi=>by
  rw[<-B,zAi,zAs]at hi;obtain⟨u,O,rfl⟩:=hi
  exact(M i _ (by rw[zAi,O];rfl)).wk⟩) hx Z G E I
end
section
section ops
variable {P:Program} {K0:List Nat} {F:Fr K0} {m:Nat} {ops:Array Oper} {rest:List Oper} {Q:St->Prop} {tm:List (Nat×AV)} {h:List (Nat×wB)}
def Qu {st:St} (u:Q st):ER P F m ops [] st Q:=λ_ _ H=>⟨rfl,st,u,H⟩
def ao {o:Oper} {st:St} {r nw:List Nat} {st':St} (C:o.guard=none) (hs:vC P st o.op v d r nw) (G:∀k,k∈nw->zE st.h k=none) (hd:uN d=true) (E:∀t,o.dst=some t->t<m)
 (B:∀t,zM st'.tm t=if o.dst=some t then v else zM st.tm t) (hh:zE st'.h=over d (zE st.h)) (hk:ER P F m ops rest st' Q):ER P F m ops (o::rest) st Q:=λa w H=>
 wpListIn_plain C λK A=>hs.rel H (λ_ _=>rfl) (λ_ _=>rfl) G hd E λz w' u=>A _ _ (hk z w' (by
  have e1:zM st'.tm=λt=>if o.dst=some t then v else zM st.tm t:=funext B
  unfold wT;rw[e1,hh]
  exact u))
section
variable {op:Op} {ty:Nat} {pos:String} {after:Array Edge} {t:Nat} {v:AV} {r nw:List Nat}
end
def UU (ops:Array Oper) (j:Nat):Option Nat:=(ops[j]?).bind (·.dst)
def gw (v:Value) (b:Bool):Bool:=match v with
 | .bool c=>c==b
 |_=>false
def YF {j:Nat} {v:Value} (z:o.guard=some (j,b)) (A:UU ops j=some t) (hv:a.eval (.tmp t)=v):Region.wanted o (yielded ops a.tmps)=gw v b:=by
 subst hv;simp only[Region.wanted,z,yielded,show(ops[j]?).bind (·.dst)=some t from A,Option.bind_some,Act.eval,zBe]
 cases h:a.tmps[t]? with
 |none=>simp[undef,gw]
 |some u=>cases u<;>simp[gw]
def Wa {st:St} (H:wT F m st a w) (hv:zM st.tm t= .s c):a.eval (.tmp t)=c:=by
 obtain⟨⟨_,β,_,_,u,_⟩,_⟩:=H;have:=u t;rw[hv]at this;exact this.s_inv
def M1 {d:Option Nat} {j:Nat} {st:St} (u:UU ops j=some t) (hv:zM st.tm t= .s (.bool b)) (hk:ER P F m ops (⟨d,op,ty,pos,after,none⟩::rest) st Q):
  ER P F m ops (⟨d,op,ty,pos,after,some (j,b)⟩::rest) st Q:=λa w H=>by
 have z:=YF (o:=⟨d,op,ty,pos,after,some (j,b)⟩) Z u (Wa H hv);have:=hk a w H;unfold wpListIn at this⊢;rw[Os (by rw[z];simp[gw])];rw[Os (by simp[Region.wanted])]at this;exact this
theorem QG.bot {tm:Nat->AV} {h:yS} (H:QG F m tm h a w) (u:Option Nat) (I:∀t,u=some t->t<m):QG F m (λt=>if u=some t then .s undef else tm t) h (a.put u undef) w:=by
 obtain⟨⟨X,β,G,z,A,B,E,C⟩,M,gs,hl⟩:=H;exact QG.put G z A B E C gs hl (wG.refl z) M (.fz _ _ (.s _)) u I
def Pu {d:Nat} {j:Nat} (z:UU ops j=some t) (hv:zM tm t= .s c) (hc:gw c b=false) (u:Nat.blt d m=true) (hk:ER P F m ops rest ⟨(d,.s undef)::tm,h⟩ Q):
  ER P F m ops (⟨some d,op,ty,pos,after,some (j,b)⟩::rest) ⟨tm,h⟩ Q:=λa w H=>by
 have A:=YF (o:=⟨some d,op,ty,pos,after,some (j,b)⟩) Z z (Wa H hv);unfold wpListIn;rw[Of (by rw[A,hc];simp)];refine⟨λ_ _=>trivial,hk _ _ ?_⟩;have:=QG.bot H (some d) (λj hj=>by cases hj;exact zAt u)
 have e1:zM ((d,.s undef)::tm)=λt=>if some d=some t then AV.s undef else zM tm t:=funext λt=>by rw[xL];simp[eq_comm]
 unfold wT;rw[e1];exact this
theorem mo {st:St} {t:Nat} {c u:Bool} (hv:zM st.tm t= .s (.bool c)) (hc:c=u) (hk:ER P F m ops l ⟨(t,.s (.bool u))::st.tm,st.h⟩ Q):ER P F m ops l st Q:=λa w H=>hk a w (by
 subst hc
 have e1:zM ((t,.s (.bool c))::st.tm)=zM st.tm:=funext λj=>by
  rw[xL];split
  .rename_i h;subst h;exact hv.symm
  .rfl
 unfold wT;dsimp only;rw[e1]
 exact H)
def Wi {st:St} {t:Nat} {c:Bool} (hv:zM st.tm t= .s (.bool c)) (h1:c=true->ER P F m ops l ⟨(t,.s (.bool true))::st.tm,st.h⟩ Q) (h2:c=false->ER P F m ops l ⟨(t,.s (.bool false))::st.tm,st.h⟩ Q):ER P F m ops l st Q:=by grind [zM,ER,mo]
end ops
section code
variable {P:Program} {K0:List Nat} {F:Fr K0} {m:Nat} {Q:Exit->St->Prop} {st:St}
def jK {c:Code} (K u:List Nat) (z:K0.all (K.contains ·)=true) {st':St} (A:restr K u st=st') (h:uR P F m c st' Q):uR P F m c st Q:=⟨λa w H=>h.run a w (A▸wT.restr H K u z)⟩
def wF {c:Code} (I:Nat->St->Prop) (n:Nat) (K A:List Nat) (E:K0.all (K.contains ·)=true) (h0:I n (restr K A st)) (u:∀n st,I n st->uR P F m c st (λe s=>match e with
  | .normal=>∃z,z<n/\I z (restr K A s)
  |e=>Q e s)):uR P F m (.loop c) st Q:=by
 refine jK K A E Z ⟨λa w H=>?_⟩;refine NL (λn a w=>∃st,I n st/\wT F m st a w) n ⟨_,h0,H⟩ λn a w ⟨st,hI,hR⟩=>?_
 refine Code.wpIn_mono (λe a' w' ⟨s,h1,h2⟩=>?_) ((u n st hI).run a w hR)
 cases e with
 |normal=>
  obtain⟨z,C,B⟩:=h1;exact⟨z,C,_,B,wT.restr h2 K A E⟩
 |_=>exact⟨s,h1,h2⟩
end code
def IZ (TT:List TI) (st:St):List ResultVar->Option (List AV)
 | []=>some []
 | .tmp t::r=>(IZ TT st r).map (zM st.tm t:: ·)
 | .cell a T::r=>match zM st.tm a with
  | .ptr k 0 off=>match zE st.h k,TT[T]? with
   |some (.box cs),some ti=>match mc ti.d.agg ti.size cs off with
    |some v=>(IZ TT st r).map (v:: ·)
    |none=>none
   |_,_=>none
  |_=>none
def Va:List AV->AV
 | [v]=>v
 |vs=> .tup vs
def Zo (tmps:Array Value):ResultVar->Sem Value
 | .tmp t=>pure (tmps.getD t undef)
 | .cell b t=>do loadVar t (<-asAddr (tmps.getD b undef))
theorem KY (E:qS P TT) {st:St} (H:gW X (zE st.h) β w) (z:∀t,yK w (xX X β) (zE st.h) β (zM st.tm t) (a.eval (.tmp t))):
  ∀(l:List ResultVar) (vs:List AV),IZ TT st l=some vs->∃cs:List Value,(l.mapM (Zo a.tmps)).run P w= .ok cs w/\cs.length=ln vs/\
   ∀(i:Nat) v,vs[i]? =some v->yK w (xX X β) (zE st.h) β v (cs.getD i undef)
 | [],vs,h=>by cases h;exact⟨[],rfl,rfl,λi v hv=>by simp at hv⟩
 | .tmp t::r,vs,h=>by
  simp only[IZ,zAs]at h;obtain⟨u,h1,rfl⟩:=h;obtain⟨cs,h2,B,C⟩:=KY E H z r u h1;refine⟨a.tmps.getD t undef::cs,by simp only[zFw,Zo,Sem.run_bind,Sem.run_pure,Result.andThen_ok,h2],by simp[B],λi v hv=>?_⟩
  cases i with
  |zero=>simp at hv;subst hv;exact z t
  |succ i=>simpa using C i v La
 | .cell b T::r,vs,h=>by
  simp only[IZ]at h;split at h
  .rename_i k off hb;split at h
   .rename_i cs U hk hT;split at h
    .rename_i v hv;rw[zAs]at h;obtain⟨u,h1,rfl⟩:=h;obtain⟨A,h2,B,C⟩:=KY E H z r u h1;have M:=z b;rw[hb]at M;obtain⟨O,hc,_,S⟩:=MS H hk M;obtain⟨c,I,R⟩:=DD E hT S hv;rw[zBx]at I;have G:a.tmps.getD b undef= .pointer (some ⟨O,off,none⟩):=hc;refine⟨c::A,by simp only[zFw,Zo,Sem.run_bind,G,asAddr,Sem.run_pure,Result.andThen_ok,I,h2],by simp[B],λi v hv=>?_⟩
     cases i with
     |zero=>simp at hv;subst hv;exact R
     |succ i=>simpa using C i v La
    .cases h
   .cases h
  .cases h
def QH:Nat->List AV->List (Nat×AV)
 |_,[]=>[]
 |i,v::r=>(i,v)::QH (i+1) r
theorem TY:∀(l:List AV) (i t:Nat),zM (QH i l) t=if i<=t then l.getD (t-i) .bot else .bot
 | [],i,t=>by simp[QH,zM]
 | v::r,i,t=>by
  rw[QH,xL,TY r];by_cases h:t=i
  .subst h;simp
  .rw[Of h];by_cases h2:i<=t
   .rw[Os h2,Os (by omega),show t-i=(t-(i+1))+1 by omega];simp
   .rw[Of h2,Of (by omega)]
def Fin (TT:List TI) (u:List ResultVar) (h0:List (Nat×wB)) (r:AV) (h1:List (Nat×wB)) (e:Exit) (st:St):Prop:=
 (e= .normal\/e= .ret)/\∃vs K,IZ TT st u=some vs/\(xD h0).all (K.contains ·)=true/\(r=wQ K (zE st.h) (Va vs)\/r=YY (wQ K (zE st.h) (Va vs)))/\zE h1=zE (vH K (zE st.h))
def zH {u:List ResultVar} {st:St} {vs:List AV} (K:List Nat) (h:IZ TT st u=some vs) (z:(xD h0).all (K.contains ·)=true) (A:YY (wQ K (zE st.h) (Va vs))=r) (hh:vH K (zE st.h)=h1):
 Fin TT u h0 r h1 .ret st:=⟨.inr Z,vs,K,h,z,.inr A.symm,by rw[hh]⟩
def zP {u:List ResultVar} {st:St} {vs:List AV} (K:List Nat) (h:IZ TT st u=some vs) (z:(xD h0).all (K.contains ·)=true) (A:wQ K (zE st.h) (Va vs)=r) (hh:vH K (zE st.h)=h1):
 Fin TT u h0 r h1 .ret st:=⟨.inr Z,vs,K,h,z,.inl A.symm,by rw[hh]⟩
theorem xS.less (h:∀b,D' b->D b) (hv:xS w D v c):xS w D' v c:=
 hv.evo (zAg _) λb _ hd=>⟨rfl,λh'=>hd (h b h')⟩
theorem yK.less {X':Nat->Prop} (u:∀b,X' b->X b) (hv:yK w (xX X β) h β v c):yK w (xX X' β) h β v c:=
 hv.evo ⟨zAg _,λb _ hd=>⟨rfl,λh'=>hd (h'.imp (u b) id)⟩,λ_ _ _ _=>rfl,jS h β⟩
theorem gW.less {X':Nat->Prop} (u:∀b,X' b->X b) (H:gW X h β w):gW X' h β w:=
 ⟨λk e z=>(H.ent k e z).evo ⟨zAg _,λb _ hd=>⟨rfl,λh'=>hd (h'.imp (u b) id)⟩,λ_ _ _ _=>rfl,jS h β⟩ rfl λ_ _ _=>rfl,H.off,H.disj,λk b n A hx=>H.free k b n A (u b hx),λb hd=>H.lt b (hd.imp (u b) id)⟩
def QI (H:gW X h β w) (hs:w.heap.size<=w'.heap.size) (hk:∀b,b<w.heap.size->¬X b->w'.heap[b]? =w.heap[b]?):CR w (xX X β) h β w' (xX X β) h β:=
 ⟨hs,λb hb hd=>⟨hk b hb λhx=>hd (.inl hx),hd⟩,λk b n u=>by
  unfold wW World.shape?
  rw[hk b (H.lt b (.inr ⟨k,n,u⟩)) (H.free k b n u)],jS h β⟩
theorem gW.turn (H:gW X h β w) (hs:w.heap.size<=w'.heap.size) (hk:∀b,b<w.heap.size->¬X b->w'.heap[b]? =w.heap[b]?):gW X h β w':=
 ⟨λk e z=>(H.ent k e z).evo (QI H hs hk) Z λb n u=>hk b (H.lt b (.inr ⟨k,n,u⟩)) (H.free k b n u),H.off,H.disj,H.free,λb hd=>zBn (H.lt b hd) hs⟩
theorem QJ {fn:Func} {tmps:Array Value} {R:Ending->World->Prop}:∀(u:List Nat) (w:World),u.Nodup->(∀b,b∈u->w.heap[b]? =some (.deferred (some [])))->
  (∀w',w'.heap.size=w.heap.size->(∀b,¬b∈u->w'.heap[b]? =w.heap[b]?)->w'.os=w.os->w'.tape=w.tape->w'.output=w.output->∃v,(results fn tmps).run P w'= .ok v w'/\R (.returned v) w')->
  LeavesInM Fence.wide 0 P fn tmps R (u.map λb=>{target:= .collected b,args:= #[]}) .returning w
 | [],w,_,_,h=>h w Z (λ_ _=>rfl) Z Z Z
 |b::u,w,E,hb,h=>by
  have z:=List.nodup_cons.1 E;refine⟨by simp,.inl ⟨b,w.putObj b (.deferred none),rfl,run_takeDeferred (hb b zW),QJ u _ z.2 (λc hc=>?_) (λw' h1 h2 A B C=>?_)⟩⟩
  .rw[World.putObj_heap_other (show c≠b from λe=>z.1 (by rw[<-e];exact hc))];exact hb c (by simp[hc])
  .refine h w' (by rw[h1];simp) (λc hc=>?_) A B C;simp at hc;rw[h2 c hc.2,World.putObj_heap_other hc.1]
theorem TZ (hP:qS P TT) {fn:Func} {body:Code} {args:List AV} (hf:P.funcs[f]? =some fn) (hb:fn.body=some body) (au:ZF P f) (S:Nat.ble (ln args) fn.ntmps=true)
 (az:uN  h0=true) (a1:uN h1=true) (h:∀F:Fr (xD h0),F.ro=none/\F.it=false->uR P F fn.ntmps body ⟨QH 0 args,h0⟩ (Fin TT fn.results.toList h0 r h1)) (bf:Nat.ble fn.ntmps GS=true:=by rfl):xR P f args h0 r h1:=by
  refine⟨au,λk=>qW a1,λX w β B b3 H V=>(callsIn_wide (n:=0)).1 ?_⟩;have S:=zAt S
  let F:Fr (xD h0):=⟨X,w,β,zE h0,λk b n u=>by
    cases hk:zE h0 k with
    |none=>rw[H.off k hk]at u;simp at u
    |some e=>exact uS hk,λk e E=>uS E,none,false,λ_=>False,λ_ _ _ _=>True,λ_ _ _ _ _ _ _ _ _ _ _ _ _ _=>trivial⟩
  refine callsIn_of_wp_marks (F:=Fence.wide) (n:=0) hf hb trivial (Code.wpIn_mono (λe U w1 q=>?_) ((h F ⟨rfl,rfl⟩).run _ w ⟨⟨X,β,⟨λ_ h=>h,λ_ h=> .inl h⟩,H,λt=>?_,⟨λk e E=>?_,zAg _,λ_ _ _ _=>rfl,λk b n u=> .inl ⟨k,n,u⟩,λk b n u=>⟨n,zAg _,u⟩,λ_ _ _ _=>rfl,rfl,rfl,rfl⟩,λ_ _=>trivial,[],rfl,λ_=>rfl,zE8,λb hb=>by simp at hb⟩,λk=>qW az,zAt bf,by simp;omega⟩)) Z
  · obtain ⟨st,⟨E,vs,K,hv,hK,hr,hh⟩,R⟩:=q;obtain⟨⟨X2,β2,⟨ax,_⟩,G,ar,z,_,bs,bd,_,ba,W⟩,b5,_,b4⟩:=R
    have av:LeavesInM Fence.wide 0 P fn U.tmps (λe w'=>∃c β',e= .returned c/\wG X w (zE h0) β w' (zE h1) β'/\yK w' (xX X β') (zE h1) β' r c) U.defers .returning w1:=by
     rw[bd];refine QJ bs w1 ba (λb hb=>(W b hb).2.2) λw' sz kp o1 o2 o3=>?_
     have ap:∀b,b<w1.heap.size->¬X2 b->w'.heap[b]? =w1.heap[b]? :=λb _ hx=>kp b λu=>hx (W b u).1
     have H2:=G.turn (zCb sz.symm) ap;have a7:=λt=>(ar t).evo (QI G (zCb sz.symm) ap)
     have C:dG F (zE st.h) β2 w':=⟨z.knd,by rw[sz];exact z.size,λb hb hi hn=>by rw[kp b λu=>by have:=(W b u).2.1;omega];exact z.keep b hb hi hn,z.own,z.pas,λk b n u=>by
      rw[<-z.bs k b n u];obtain⟨n',_,A⟩:=z.pas k b n u;unfold wW World.shape?
      rw[ap b (G.lt b (.inr ⟨k,n',A⟩)) (G.free k b n' A)],o1.trans z.os,o2.trans z.tape,o3.trans z.output⟩
     obtain⟨cs,q1,q2,q3⟩:=KY hP H2 a7 _ _ hv;obtain⟨a6,a5⟩:=H2.restr K;have H3:=a6.less ax;have a4:=λv c hv=>(a5 v c hv).less ax
     have a3:∃c,(results fn U.tmps).run P w'= .ok c w'/\yK w' (xX X2 β2) (zE st.h) β2 (Va vs) c:=by
       have u:(fn.results.mapM (Zo U.tmps)).run P w'= .ok cs.toArray w':=by
         rw[<-Array.toArray_toList (xs:=fn.results),List.mapM_toArray];simp only[Sem.run_map,q1,Result.andThen_ok]
       have a2:(results fn U.tmps).run P w'= .ok (if h:cs.toArray.size=1 then cs.toArray[0]else .tuple cs.toArray) w':=by
         show(fn.results.mapM (Zo U.tmps) >>= λvs=>pure (if h:vs.size=1 then vs[0]else .tuple vs)).run P w'=_
         rw[Sem.run_bind,u];rfl
       refine⟨_,a2,?_⟩;by_cases h1:ln cs=1
       · rw[zFn Ma]
         match cs,vs,h1,q2,q3 with
         | [c],[v],_,_,q3=>exact q3 0 v Z
       · rw[dif_neg Ma]
         have bl:Va vs= .tup vs:=by
           match vs,q2 with
           | [],_=>rfl
           | [v],q2=>exact absurd q2 h1
           |_::_::_,_=>rfl
         rw[bl];exact .tup vs _ (by simpa using q2) λi v hi=>by simpa [ny]using q3 i v hi
     obtain⟨c,Y,I⟩:=a3
     have ac:∃c β',Ending.returned c= .returned c/\(results fn U.tmps).run P w'= .ok c w'/\wG X w (zE h0) β w' (zE h1) β'/\yK w' (xX X β') (zE h1) β' r c:=by
       refine⟨c,λk=>if k∈K then β2 k else [],rfl,Y,?_,?_⟩
       · rw [hh];refine⟨C.size,λb hb hn=>C.keep b hb (λhf=>hf) hn,λk b n u=>?_,C.bs,λk e E=> .inr ?_,H3,C.os,C.tape,C.output⟩
         · (try dsimp only at u)
           split at u
           · exact C.own k b n u
           · simp at u
         · have O:k∈K:=by
             have:=zAq.1 hK k (uS E);simpa using this
           have h1:=C.knd k e E;have ag:∀e',zE st.h k=some e'->zE (vH K (zE st.h)) k=some (qE K (zE st.h) e'):=λe' h2=>by rw[wY,Os O,h2];rfl
           cases e with
           |dead=>exact h1
           | box b0=>
             obtain⟨a8,h2⟩:=h1;refine⟨⟨_,ag _ h2⟩,λb n u=>?_⟩
             (try dsimp only)
             rw[Os O];obtain⟨n',bk,A⟩:=C.pas k b n u;obtain⟨b2,_,_,e2,_⟩:=H2.ent k _ h2;obtain⟨b1,_,_,e1,_⟩:=H.ent k _ E;rw[e1]at u;rw[e2]at A⊢;simp at u A⊢;exact⟨A.1,u.2⟩
           | obj cs=>
             obtain⟨a8,h2⟩:=h1;refine⟨⟨_,ag _ h2⟩,λb n u=>?_⟩
             (try dsimp only)
             rw[Os O];obtain⟨n',bk,A⟩:=C.pas k b n u;have e2:=(H2.ent k _ h2).1;have e1:=(H.ent k _ E).1;rw[e1]at u;rw[e2]at A⊢;simp at u A⊢;exact⟨A.1,u.2⟩
           | arr sz xs sl=>
             obtain⟨bu,br,h2,h3⟩:=h1;obtain⟨bx,a9,h4,h5⟩:=bQ K (zE st.h) sz bu br;refine⟨⟨bx,a9,(ag _ h2).trans (by rw[h4]),by rw[h5];exact h3⟩,λb n u=>?_⟩
             (try dsimp only)
             rw[Os O];exact C.pas k b n u
       · rw[hh]
         rcases hr with rfl|rfl
         · exact a4 _ _ I
         · exact(a4 _ _ I).wk
     obtain⟨c,β',_,Y,I,bb⟩:=ac;exact⟨c,Y,c,β',rfl,I,bb⟩
    rcases E with rfl|rfl
    all_goals exact av
  · show yK w (xX X β) (zE h0) β (zM (QH 0 args) t) _
    rw[TY,Os (zAr _),zE4];by_cases ht:t<ln args
    · have h2:args[t]? =some (args.getD t .bot):=by simp[ny,ht]
      have:=V t _ h2
      have e:Act.eval {tmps:=B++Array.replicate (fn.ntmps-B.size) undef,defers:=[]} (.tmp t)=B.getD t undef:=by
        simp only[Act.eval,zBe];rw[zCg (by omega)]
      rw[e];exact this
    · have:args.getD t .bot= .bot:=by simp[ny,zB2 (by omega:ln args<=t)]
      rw[this];exact .fz _ _ (.bot _)
  · have M:zE h0 k=some e:=E
    cases e with
    |dead=>exact absurd M (qW az)
    |box cs=>exact⟨cs,M⟩
    |obj cs=>exact⟨cs,M⟩
    |arr sz xs sl=>exact⟨xs,sl,M,zAg _⟩
end
def cG (l:Array Bool) (i:Nat):Bool:=l.getD i false
def binds (e:Edge):Bool:=Region.binds .any e
def Ou (ops:Array Oper):Bool:=(nm ops.size).all λi=>((ops[i]?).map λo=>o.after.all λe=>!binds e||decide (e.on<i)).getD false
def Nu (T:List Nat):List Edge->Nat->Nat
 | [],m=>m
 |e::r,m=>Nu T r (bif binds e then m ||| (2 ^ e.on ||| T.getD e.on 0)else m)
def Hx:List Oper->List Nat->List Nat
 | [],T=>T
 |o::r,T=>Hx r (T++[Nu T o.after.toList 0])
def KZ (ops:List Oper):List Nat:=Hx ops []
def D8 (ops:Array Oper) (T:List Nat):Bool:=
 (nm ops.size).all λi=>((ops[i]?).map λo=>Nat.beq (T.getD i 0) (Nu T o.after.toList 0)).getD false
def Mu (T:List Nat) (i j:Nat):Bool:=(T.getD i 0).testBit j
theorem Ua (T:List Nat) (j:Nat):∀(l:List Edge) (m:Nat),(Nu T l m).testBit j=true->m.testBit j=true\/∃e,e∈l/\binds e=true/\(e.on=j\/Mu T e.on j=true)
 | [],m,h=> .inl h
 | e::r,m,h=>by
  rcases Ua T j r _ h with h1|⟨e',h1,h2,h3⟩
  .cases hb:binds e with
   |false=>rw[hb]at h1;exact .inl h1
   |true=>
    rw[hb,zBr,Nat.testBit_or,Nat.testBit_or,Nat.testBit_two_pow,zCm,zCm]at h1
    rcases h1 with h1|h1|h1
    .exact .inl h1
    .exact .inr ⟨e,by simp,hb,.inl Ma⟩
    .exact .inr ⟨e,by simp,hb,.inr h1⟩
  .exact .inr ⟨e',by simp[h1],h2,h3⟩
def QK (l:Array Bool) (i j:Nat) (hi:i<l.size):cG (l.setIfInBounds i true) j=if j=i then true else cG l j:=by
 unfold cG;by_cases e:j=i
 .simp_all [cG]
 .rw[Of e];simp only[zBe,Array.getElem?_setIfInBounds_ne (Ne.symm e)]
def Gr (p:Nat->Bool):Nat->Nat
 |0=>0
 |k+1=>Gr p k+if p k then 1 else 0
theorem Vi {p q:Nat->Bool} (n:Nat) (h:∀i,i<n->p i=q i):Gr p n=Gr q n:=by
 induction n with
 |zero=>rfl
 |succ n u=>unfold Gr;rw[u λi hi=>h i (by omega),h n (by omega)]
def L1 (p:Nat->Bool) (n:Nat):Gr p n<=n:=by
 induction n with
 |zero=>exact zAg _
 |succ n u=>unfold Gr;split<;>omega
def Zg {p q:Nat->Bool} (n i:Nat) (hi:i<n) (u:p i=false) (h:∀j,j≠i->q j=p j):Gr q n=Gr p n+if q i then 1 else 0:=by
 induction n with
 |zero=>omega
 |succ n z=>
  grind [Gr,Vi]
section
variable {ops:Array Oper} {T:List Nat}
def ES (A:Ou ops=true) (hT:D8 ops T=true) {l:Array Bool} (hd:∀i o,ops[i]? =some o->cG l i=true->∀e∈o.after,binds e=true->cG l e.on=true):
  ∀(n i:Nat) (o:Oper),i<n->ops[i]? =some o->(∀e∈o.after,binds e=true->cG l e.on=true)->∀j,Mu T i j=true->cG l j=true:=by
 intro n
 induction n with
 |zero=>intro i o h;omega
 | succ n I=>
  intro i o C z B j hj;have hi:i<ops.size:=(zCo.1 z).1;have h1:=zAq.1 hT i (zA3.2 hi);simp only[z,zB8,zC1]at h1;unfold Mu at hj;rw[zA9 h1]at hj
  rcases Ua T j _ _ hj with h2|⟨x,hx,hb,h2⟩
  .simp at h2
  have u:x∈o.after:=by simpa using hx
  have hl:=B _ u hb
  rcases h2 with h2|h2
  .grind
  .have E:=zAq.1 A i (zA3.2 hi);obtain⟨y,G,rfl⟩:=Array.getElem_of_mem u
   grind
def ZH {l:Array Bool} (hs:l.size=ops.size) (h:i∈Region.ready .any ops l):∃o,ops[i]? =some o/\cG l i=false/\∀e∈o.after,binds e=true->cG l e.on=true:=by
 unfold Region.ready at h;rw[zD5,zA3]at h;obtain⟨hi,h⟩:=h;have u:ops[i]? =some ops[i]:=by simp[hi]
 simp only[u,zB8,zC1,zAn,zCx,Array.all_eq_true,zCm]at h
 grind [cG,binds,Array.getD_eq_getD_getElem?,Array.getElem?_eq_getElem,Array.getElem_of_mem]
def Ui (B:Ou ops=true) {l:Array Bool} (hs:l.size=ops.size) (h:Region.ready .any ops l=[]):∀n i,i<n->i<ops.size->cG l i=true:=by
 intro n
 induction n with
 |zero=>intro i h;omega
 | succ n G=>
  intro i C hi
  cases hl:cG l i with
  |true=>rfl
  | false=>
   exfalso
   have A:i∈Region.ready .any ops l:=by
    unfold Region.ready;rw[zD5,zA3];refine⟨hi,?_⟩;have E:ops[i]? =some ops[i]:=by simp[hi]
    have u:=zAq.1 B i (zA3.2 hi);simp only[E,zB8,zC1,zAn,zCx,Array.all_eq_true,zCm,zAe]at u⊢;refine⟨?_,λx hx=>?_⟩
    .unfold cG at hl;simp only[zBe]at hl⊢;rw[Array.getElem?_eq_getElem (by omega)]at hl⊢;simpa using hl
    .rcases u x hx with z|z
     .exact .inl z
     .exact .inr (G _ (by omega) (by omega))
   rw[h]at A;cases A
end
structure JC where
 on:Bool
 v:AV
 d:List (Nat×wB)
 r:List Nat
 nw:List Nat
def St.app (st:St) (u:Option Nat) (v:AV) (d:List (Nat×wB)):St:=⟨match u with
 |some t=>(t,v)::st.tm
 |none=>st.tm,d++st.h⟩
variable {st st':St}
def G9 (ops:Array Oper) (o:Oper):List Nat:=match o.guard with
 |some (j,_)=>(UU ops j).toList
 |none=>[]
def GJ (P:Program) (m:Nat) (ops:Array Oper) (o:Oper) (st:St) (e:JC):Prop:=
 uN e.d=true/\(∀t,o.dst=some t->t<m)/\(∀k,k∈e.nw->zE st.h k=none)/\
 (e.on=true->vC P st o.op e.v e.d e.r e.nw)/\(e.on=false->e.v= .s undef/\e.d=[])/\
 match o.guard with
  |none=>e.on=true
  |some (j,b)=>∃t c,UU ops j=some t/\zM st.tm t= .s c/\e.on=gw c b
def Tr (P:Program) (m:Nat) (ops:Array Oper):List Oper->St->List JC->St->Prop
 | [],st,[],st'=>st=st'
 |o::l,st,e::u,st'=>GJ P m ops o st e/\Tr P m ops l (st.app o.dst e.v e.d) u st'
 |_,_,_,_=>False
def hH (L:Nat->Bool):Nat->List (Option Nat×JC)->St->St
 |_,[],st=>st
 |i,(dst,e)::r,st=>hH L (i+1) r (bif L i then st.app dst e.v e.d else st)
def QL (st:St) (u:Option Nat) (v:AV) (d:List (Nat×wB)) (t:Nat):zM (st.app u v d).tm t=if u=some t then v else zM st.tm t:=by
 cases u with
 |none=>simp[St.app]
 |some j=>simp only[St.app,xL,zBw];by_cases h:t=j<;>simp[h,eq_comm]
def VU (st:St) (u:Option Nat) (v:AV) (d:List (Nat×wB)) (k:Nat):zE (st.app u v d).h k=over d (zE st.h) k:=by
 show zE (d++st.h) k=_
 rw[vP]
theorem QM {u:Nat->Bool} :∀(r:List (Option Nat×JC)) (i:Nat) (st st':St),zM st.tm t=zM st'.tm t->(∀(j:Nat) p,r[j]? =some p->p.1=some t->L (i+j)=u (i+j))->
  zM (hH L i r st).tm t=zM (hH u i r st').tm t
 | [],_,_,_,h,_=>h
 | (dst,e)::r,i,st,st',h,hl=>by
  refine QM r (i+1) _ _ ?_ λj p z h1=>by have:=hl (j+1) p (by simpa using z) h1;rwa [show i+1+j=i+(j+1) by omega]
  by_cases hd:dst=some t
  .have:=hl 0 (dst,e) Z hd;simp only[zC8]at this;rw[this];cases u i
   .exact h
   .simp only[zBr,QL,hd,zEp]
  .cases L i<;>cases u i<;>simp only[zBr,zCc,QL,Of hd,h]
def Ta (hk:¬k∈xD d):over d h k=h k:=by
 unfold over
 cases u:zE d k with
 |none=>rfl
 |some e=>exact absurd (uS u) hk
def Yg (hk:k∈xD d):over d h k=over d h' k:=by
 obtain⟨e,u⟩:=ZG hk;simp[over,u]
theorem VV {u:Nat->Bool} :∀(r:List (Option Nat×JC)) (i:Nat) (st st':St),zE st.h k=zE st'.h k->(∀(j:Nat) p,r[j]? =some p->k∈xD p.2.d->L (i+j)=u (i+j))->
  zE (hH L i r st).h k=zE (hH u i r st').h k
 | [],_,_,_,h,_=>h
 | (dst,e)::r,i,st,st',h,hl=>by
  refine VV r (i+1) _ _ ?_ λj p z h1=>by have:=hl (j+1) p (by simpa using z) h1;rwa [show i+1+j=i+(j+1) by omega]
  by_cases hd:k∈xD e.d
  .have:=hl 0 (dst,e) Z hd;simp only[zC8]at this;rw[this];cases u i
   .exact h
   .simp only[zBr,VU];exact Yg hd
  .cases L i<;>cases u i<;>simp only[zBr,zCc,VU,Ta hd,h]
theorem Xg :∀(l:List Oper) (u:List JC) (i:Nat) (st st':St),Tr P m ops l st u st'->(∀j,j<ln l->L (i+j)=true)->hH L i (l.zipWith (λo e=>(o.dst,e)) u) st=st'
 | [],[],_,_,_,h,_=>h
 |o::l,e::u,i,st,st',h,hl=>by
  simp only[zDp,hH];rw[show L i=true from hl 0 zW];exact Xg l u (i+1) _ st' h.2 λj hj=>by have:=hl (j+1) (by simpa using hj);rwa [show i+1+j=i+(j+1) by omega]
 | [],_::_,_,_,_,h,_=>h.elim
 |_::_,[],_,_,_,h,_=>h.elim
theorem QN :∀(r:List (Option Nat×JC)) (i:Nat) (st:St),(∀j,j<ln r->L (i+j)=false)->hH L i r st=st
 | [],_,_,_=>rfl
 |(dst,e)::r,i,st,h=>by
  unfold hH;rw[show L i=false from h 0 zW];exact QN r (i+1) st λj hj=>by have:=h (j+1) (by simpa using hj);rwa [show i+1+j=i+(j+1) by omega]
theorem Tr.len :∀{l:List Oper} {u:List JC} {st st':St},Tr P m ops l st u st'->ln u=ln l
 | [],[],_,_,_=>rfl
 |o::l,e::u,_,_,h=>by simp[Tr.len h.2]
 | [],_::_,_,_,h=>h.elim
 |_::_,[],_,_,h=>h.elim
theorem Tr.at :∀{l:List Oper} {u:List JC} {st st':St} (i k:Nat) (o:Oper) (e:JC),Tr P m ops l st u st'->l[i]? =some o->u[i]? =some e->
  GJ P m ops o (hH (λj=>decide (j<k+i)) k (l.zipWith (λo e=>(o.dst,e)) u) st) e/\
   hH (λj=>decide (j<k+i+1)) k (l.zipWith (λo e=>(o.dst,e)) u) st=(hH (λj=>decide (j<k+i)) k (l.zipWith (λo e=>(o.dst,e)) u) st).app o.dst e.v e.d
 | A::l,z::u,st,st',0,k,o,e,h,h1,h2=>by
  simp at h1 h2;subst h1 h2;have q1:hH (λj=>decide (j<k+0)) k ((A::l).zipWith (λo e=>(o.dst,e)) (z::u)) st=st:=QN _ _ _ λj _=>by simp
  have C:hH (λj=>decide (j<k+0+1)) k ((A::l).zipWith (λo e=>(o.dst,e)) (z::u)) st=st.app A.dst z.v z.d:=by
   simp only[zDp,hH,show decide (k<k+0+1)=true by simp,zBr];exact QN _ _ _ λj _=>by simp
  rw[q1,C];exact⟨h.1,rfl⟩
 |A::l,z::u,st,st',i+1,k,o,e,h,h1,h2=>by
  have B:=Tr.at i (k+1) o e h.2 Ma Oa;simp only[zDp,hH,show decide (k<k+(i+1))=true by simp,show decide (k<k+(i+1)+1)=true by simp;omega,zBr];rw[show k+(i+1)=k+1+i by omega];exact B
 | [],[],_,_,_,_,_,_,_,h1,_=>by simp at h1
 | [],_::_,_,_,_,_,_,_,h,_,_=>h.elim
 |_::_,[],_,_,_,_,_,_,h,_,_=>h.elim
structure FP where
 on:Bool
 w:List Nat
 r:List Nat
def JC.fp (e:JC):FP:=⟨e.on,xD e.d++e.nw,e.r⟩
def Ti (ops:Array Oper) (o:Oper):List Nat:=G9 ops o++dI o.op
def aD (ops:Array Oper) (B z:Oper) (A u:FP):Bool:=
 (match B.dst with|some t=>(Ti ops z).contains t||z.dst==some t|none=>false)||(match z.dst with|some t=>(Ti ops B).contains t|none=>false)||
  A.w.any (λk=>u.w.contains k||u.r.contains k)||u.w.any (λk=>A.r.contains k)
def GK (l:List Oper) (T:List Nat) (fs:List FP):Bool:=
 Ou l.toArray&&D8 l.toArray T&&(nm (ln l)).all λj=>(nm j).all λi=>match l[i]?,l[j]?,fs[i]?,fs[j]? with
  |some A,some B,some u,some z=>Mu T j i|| !aD l.toArray A B u z
  |_,_,_,_=>false
section
variable {P:Program} {K0:List Nat} {F:Fr K0} {m:Nat}
theorem QG.congr {u:Nat->AV} (R:QG F m tm h a w) (e1:∀t,u t=tm t) (z:∀k,h' k=h k):QG F m u h' a w:=by
 obtain rfl:u=tm:=funext e1;obtain rfl:h'=h:=funext z;exact R
def SA (l:List Oper) (n:Nat) (T:List Nat) (fs:List FP):Bool:=
 Ou l.toArray&&D8 l.toArray T&&((nm n).all λj=>(nm j).all λi=>match l[i]?,l[j]?,fs[i]?,fs[j]? with
  |some A,some B,some u,some z=>Mu T j i|| !aD l.toArray A B u z
  |_,_,_,_=>false)&&Nat.ble n (ln l)&&((nm (ln l)).all λj=>Nat.blt j n||(nm j).all λi=>Mu T j i)
theorem GL {id:Nat} (n:Nat) {es:List JC} {Q:Exit->St->Prop} (hm:P.follows .mixedOrders=true) (hT:Tr P m l.toArray (l.take n) st es st') (hC:SA l n (KZ l) (es.map JC.fp)=true) (hB:ER P F m l.toArray (l.drop n) st' (Q .normal)):
  uR P F m (.region id l.toArray true) st Q:=by
 refine⟨?_⟩;intro a w H;unfold SA at hC;rw[zAn,zAn,zAn,zAn,zAq,zAq]at hC;obtain⟨⟨⟨⟨hA,a7⟩,hX⟩,a9⟩,hY⟩:=hC;have a9:=zAt a9;generalize KZ l=T at *;have br:=hT.len;rw[zAw,Nat.min_eq_left a9]at br
 have a6:∀(i:Nat) o,(l.take n)[i]? =some o->l[i]? =some o/\i<n:=λi o h=>by
  have h1:i<n:=by
   have:=(zAz.1 h).1;rw[zAw]at this;omega
  rw[List.getElem?_take_of_lt h1]at h;exact⟨h,h1⟩
 have b3:∀i j,n<=j->j<ln l->i<j->Mu T j i=true:=λi j h1 h2 U=>by
  have:=hY j (zA3.2 h2);rw[show Nat.blt j n=false by cases hb:Nat.blt j n with|false=>rfl|true=>exact absurd (zAt hb) (by omega),zCp,zAq]at this;exact this i (zA3.2 U)
 let R:=(l.take n).zipWith (λo e=>(o.dst,e)) es
 have hR:∀(j:Nat) p,R[j]? =some p->∃o e,(l.take n)[j]? =some o/\es[j]? =some e/\p=(o.dst,e):=λj p W=>by
  simp only[R,List.getElem?_zipWith]at W
  cases I:(l.take n)[j]? with
  |none=>simp[I]at W
  |some o=>cases he:es[j]? with
   |none=>simp[I,he]at W
   |some e=>simp[I,he]at W;exact⟨o,e,rfl,rfl,W.symm⟩
 have b4:∀i j oi C ei z,i<j->(l.take n)[i]? =some oi->(l.take n)[j]? =some C->es[i]? =some ei->es[j]? =some z->aD l.toArray oi C ei.fp z.fp=true->Mu T j i=true:=λi j oi C ei z bs h1 h2 U h4 h5=>by
  have:=zAq.1 (hX j (zA3.2 (a6 j C h2).2)) i (zA3.2 bs);simp only[(a6 i oi h1).1,(a6 j C h2).1,zAi,U,h4,zB8,h5,zFh,zEu]at this;simpa using this
 let QQ:Exit->Act->World->Prop:=λe M w'=>e= .normal/\∃s,Q .normal s/\wT F m s M w'
 let J0:Array Bool->Prop:=λL=>L.size=l.toArray.size/\(∀i o,l.toArray[i]? =some o->cG L i=true->∀e∈o.after,binds e=true->cG L e.on=true)
 let JA:Array Bool->Act->World->Prop:=λL a w=>J0 L/\(∀i,n<=i->cG L i=false)/\QG F m (zM (hH (cG L) 0 R st).tm) (zE (hH (cG L) 0 R st).h) a w
 let JB:Array Bool->Act->World->Prop:=λL a w=>J0 L/\∃k,(∀i,cG L i=decide (i<n+k))/\n+k<=ln l/\wpListIn (Cd F.ro) 0 P l.toArray QQ (l.drop (n+k)) a w
 let J:Array Bool->Act->World->Prop:=λL a w=>JA L a w\/JB L a w
 have a1:∀L a w,J L a w->J0 L:=λL a w h=>h.elim (λh=>h.1) (λh=>h.1)
 have b2:∀L a w,JA L a w->(∀i,i<n->cG L i=true)->JB L a w:=λL a w B V=>by
  refine⟨B.1,0,λi=>?_,a9,?_⟩
  .by_cases h:i<n
   .rw[V i h];simp[h]
   .rw[B.2.1 i (by omega)];simp[h]
  .have:hH (cG L) 0 R st=st':=Xg (l.take n) es 0 st st' hT λj hj=>by rw[zBx];exact V j (by rw[zAw]at hj;omega)
   have h2:=B.2.2;rw[this]at h2;exact hB a w h2
 have bf:∀L a w,(∀i,i<l.toArray.size->cG L i=true)->J L a w->QQ .normal a w:=λL a w V B=>by
  have cg:JB L a w:=B.elim (λh=>b2 L a w h λi hi=>V i uH) (λh=>h);obtain⟨_,k,h1,h2,U⟩:=cg
  have hk:n+k=ln l:=by
   by_cases h:n+k<ln l
   .have h4:=V (n+k) WC;rw[h1]at h4;simp at h4
   .omega
  rw[hk,zEk]at U;exact U
 have bb:∀(L:Array Bool) i o,J0 L->l.toArray[i]? =some o->(∀e∈o.after,binds e=true->cG L e.on=true)->J0 (L.setIfInBounds i true):=λL i o h0 I A=>by
  obtain⟨hs,ar⟩:=h0;have E:i<l.toArray.size:=(zCo.1 I).1
  have O:∀j,cG (L.setIfInBounds i true) j=if j=i then true else cG L j:=λj=>QK L i j (by rw[hs];exact E)
  refine⟨by simpa using hs,λj C av a5 ed b5 hb=>?_⟩;rw[O]at a5⊢;by_cases u:j=i
  .subst u;rw[I]at av;cases av;split
   .rfl
   .exact A ed b5 hb
  .rw[Of u]at a5;split
   .rfl
   .exact ar j C av a5 ed b5 hb
 have ap:∀L a w i,JB L a w->i∈Region.ready .any l.toArray L->∀K:Act->World->Prop,(∀M w',J (L.setIfInBounds i true) M w'->K M w')->wpOpIn (Cd F.ro) 0 P l.toArray QQ i K a w:=by
  intro L a w i B hi K hK;obtain⟨h0,k,h1,h2,U⟩:=B;obtain⟨o,I,hl,A⟩:=ZH h0.1 hi;have E:i<l.toArray.size:=(zCo.1 I).1;have a4:i<ln l:=by simpa using E
  have cm:n+k<=i:=by
   rw[h1]at hl;simpa using hl
  have ch:i=n+k:=by
   by_cases h:n+k<i
   .have h5:=ES hA a7 h0.2 (i+1) i o (by omega) I A (n+k) (b3 _ _ (by omega) a4 h);rw[h1]at h5;simp at h5
   .omega
  subst ch;rw[zDu a4]at U
  have au:l[n+k]'a4=o:=by
   have:=(zCo.1 I).2;simpa using this
  rw[au]at U
  have O:∀j,cG (L.setIfInBounds (n+k) true) j=if j=n+k then true else cG L j:=λj=>QK L _ j (by rw[h0.1];exact E)
  have b9:∀M w',wpListIn (Cd F.ro) 0 P l.toArray QQ (l.drop (n+k+1)) M w'->K M w':=λM w' h=>by
   refine hK M w' (.inr ⟨bb L _ o h0 I A,k+1,λj=>?_,by omega,h⟩);rw[O,h1];by_cases hj:j=n+k
   .rw[Os hj];simp;omega
   .rw[Of hj];by_cases ci:j<n+k
    all_goals(simp[ci];omega)
  unfold wpOpIn;rw[I];dsimp only;unfold wpListIn at U;split
  .rename_i hw;rw[Os hw]at U;exact Oper.wpIn_mono b9 U
  .rename_i hw;rw[Of hw]at U;exact⟨U.1,b9 _ _ U.2⟩
 have bx:∀L a w i,J L a w->i∈Region.ready .any l.toArray L->∀K:Act->World->Prop,(∀M w',J (L.setIfInBounds i true) M w'->K M w')->wpOpIn (Cd F.ro) 0 P l.toArray QQ i K a w:=by
  intro L a w i B hi K hK
  rcases B with B|B
  case inr=>exact ap L a w i B hi K hK
  by_cases bl:i<n
  case neg=>
   refine ap L a w i (b2 L a w B λj hj=>?_) hi K hK;obtain⟨o,I,hl,A⟩:=ZH B.1.1 hi;have E:i<l.toArray.size:=(zCo.1 I).1;exact ES hA a7 B.1.2 (i+1) i o (by omega) I A j (b3 _ _ (by omega) (by simpa using E) (by omega))
  obtain⟨ce,b6,a2⟩:=B;obtain⟨hs,ar⟩:=ce;obtain⟨o,I,hl,A⟩:=ZH hs hi;have E:i<l.toArray.size:=(zCo.1 I).1;have au:(l.take n)[i]? =some o:=by rw[List.getElem?_take_of_lt bl];simpa using I
  obtain⟨e,he⟩:∃e,es[i]? =some e:=⟨es[i]'(by rw[br];exact bl),by simp⟩;have a8:=ES hA a7 ar (i+1) i o (by omega) I A
  have bu:∀j,j<l.toArray.size->Mu T j i=true->cG L j=false:=λj hj bs=>by
   cases a5:cG L j with
   |false=>rfl
   |true=>
    have av:l.toArray[j]? =some l.toArray[j]:=by simp[hj]
    have:=ES hA a7 ar (j+1) j _ (by omega) av (ar j _ av a5) i bs;rw[hl]at this;cases this
  have ag:∀j C z,(l.take n)[j]? =some C->es[j]? =some z->j≠i->(j<i->aD l.toArray C o z.fp e.fp=true)->(i<j->aD l.toArray o C e.fp z.fp=true)->cG L j=decide (j<i):=λj C z h1 h2 cj U h4=>by
   rcases Nat.lt_or_gt_of_ne cj with h|h
   .rw[a8 j (b4 j i C o z e h h1 au h2 he (U h))];simp[h]
   .rw[bu j (by have:=a6 j C h1;simp;omega) (b4 i j o C e z h au h1 he h2 (h4 h))];simp;omega
  obtain⟨⟨s1,s2,s3,s4,s5,s6⟩,ac⟩:=hT.at i 0 o e au he;simp only[zBx]at s3 s4 s6 ac
  let Li:Nat->Bool:=λj=>decide (j<i)
  have cd:∀t,t∈Ti l.toArray o->zM (hH (cG L) 0 R st).tm t=zM (hH Li 0 R st).tm t:=λt ht=>QM R 0 st st Z λj p W hd=>by
   obtain⟨C,z,h1,h2,rfl⟩:=hR j p W;rw[zBx];by_cases u:j=i
   .subst u;simp only[Li];rw[hl];simp
   .refine ag j C z h1 h2 u (λ_=>?_) λ_=>?_
    .unfold aD;simp only[show C.dst=some t from hd,zC7.2 ht,zC6]
    .unfold aD;simp only[show C.dst=some t from hd,zC7.2 ht,zC6,zDw]
  have cc:∀k,k∈e.r\/k∈e.nw\/k∈xD e.d->zE (hH (cG L) 0 R st).h k=zE (hH Li 0 R st).h k:=λk hk=>VV R 0 st st Z λj p W hd=>by
   obtain⟨C,z,h1,h2,rfl⟩:=hR j p W;rw[zBx];by_cases u:j=i
   .subst u;simp only[Li];rw[hl];simp
   .have az:k∈z.fp.w:=by simp only[JC.fp,zA5];exact .inl hd
    have b7:k∈e.fp.w\/k∈e.fp.r:=by
     simp only[JC.fp,zA5]
     rcases hk with h|h|h
     .exact .inr h
     .exact .inl (.inr h)
     .exact .inl (.inl h)
    refine ag j C z h1 h2 u (λ_=>?_) λ_=>?_
    .have:z.fp.w.any (λk=>e.fp.w.contains k||e.fp.r.contains k)=true:=zBz.2 ⟨k,az,by simp only[zCm,zC7];exact b7⟩;unfold aD;simp only[this,zDw,zC6]
    .rcases b7 with h|h
     .have:e.fp.w.any (λk=>z.fp.w.contains k||z.fp.r.contains k)=true:=zBz.2 ⟨k,h,by simp only[zCm,zC7];exact .inl az⟩;unfold aD;simp only[this,zDw,zC6]
     .have:z.fp.w.any (λk=>e.fp.r.contains k)=true:=zBz.2 ⟨k,az,zC7.2 h⟩;unfold aD;simp only[this,zDw]
  have O:∀j,cG (L.setIfInBounds i true) j=if j=i then true else cG L j:=λj=>QK L i j (by rw[hs];exact E)
  have b0:∀t,zM (hH (cG (L.setIfInBounds i true)) 0 R st).tm t=if o.dst=some t then e.v else zM (hH (cG L) 0 R st).tm t:=λt=>by
   by_cases hd:o.dst=some t
   .rw[Os hd]
    have h1:zM (hH (cG (L.setIfInBounds i true)) 0 R st).tm t=zM (hH (λj=>decide (j<i+1)) 0 R st).tm t:=QM R 0 st st Z λj p W Y=>by
     obtain⟨C,z,h1,h2,rfl⟩:=hR j p W;rw[zBx,O];by_cases u:j=i
     .subst u;simp
     .have bd:C.dst=some t:=Y;rw[Of u,ag j C z h1 h2 u (λ_=>by unfold aD;simp[bd,hd]) (λ_=>by unfold aD;simp[bd,hd])];by_cases h:j<i
      all_goals(simp[h];omega)
    rw[h1,show(hH (λj=>decide (j<i+1)) 0 R st)=_ from ac,QL,Os hd]
   .rw[Of hd]
    exact QM R 0 st st Z λj p W Y=>by
     obtain⟨C,z,h1,h2,rfl⟩:=hR j p W;rw[zBx,O];by_cases u:j=i
     .subst u;rw[au]at h1;cases h1;exact absurd Y hd
     .rw[Of u]
  have ba:∀k,zE (hH (cG (L.setIfInBounds i true)) 0 R st).h k=over e.d (zE (hH (cG L) 0 R st).h) k:=λk=>by
   by_cases hd:k∈xD e.d
   .have h1:zE (hH (cG (L.setIfInBounds i true)) 0 R st).h k=zE (hH (λj=>decide (j<i+1)) 0 R st).h k:=VV R 0 st st Z λj p W Y=>by
     obtain⟨C,z,h1,h2,rfl⟩:=hR j p W;rw[zBx,O];by_cases u:j=i
     .subst u;simp
     .have az:k∈z.fp.w:=by simp only[JC.fp,zA5];exact .inl Y
      have ca:k∈e.fp.w:=by simp only[JC.fp,zA5];exact .inl hd
      have q1:z.fp.w.any (λk=>e.fp.w.contains k||e.fp.r.contains k)=true:=zBz.2 ⟨k,az,by simp only[zCm,zC7];exact .inl ca⟩;have q2:e.fp.w.any (λk=>z.fp.w.contains k||z.fp.r.contains k)=true:=zBz.2 ⟨k,ca,by simp only[zCm,zC7];exact .inl az⟩;rw[Of u,ag j C z h1 h2 u (λ_=>by unfold aD;simp only[q1,zDw,zC6]) (λ_=>by unfold aD;simp only[q2,zDw,zC6])];by_cases h:j<i
      all_goals(simp[h];omega)
    rw[h1,show(hH (λj=>decide (j<i+1)) 0 R st)=_ from ac,VU];exact Yg hd
   .rw[Ta hd]
    exact VV R 0 st st Z λj p W Y=>by
     obtain⟨C,z,h1,h2,rfl⟩:=hR j p W;rw[zBx,O];by_cases u:j=i
     .subst u;rw[he]at h2;cases h2;exact absurd Y hd
     .rw[Of u]
  have bk:∀M w',QG F m (λt=>if o.dst=some t then e.v else zM (hH (cG L) 0 R st).tm t) (over e.d (zE (hH (cG L) 0 R st).h)) M w'->K M w':=λM w' h=>by
   refine hK M w' (.inl ⟨bb L i o ⟨hs,ar⟩ I A,λj hj=>?_,h.congr b0 ba⟩);rw[O,Of (by omega)];exact b6 j hj
  have a3:e.on=true->o.wpIn (Cd F.ro) 0 P a w K QQ:=λax=>
   (s4 ax).rel a2 (λt ht=>cd t (by unfold Ti;simp[ht])) (λk hk=>cc k (.inl hk)) (λk hk=>by rw[cc k (.inr (.inl hk))];exact s3 k hk) s1 s2 bk
  unfold wpOpIn;rw[I];dsimp only
  cases hg:o.guard with
  |none=>
   rw[hg]at s6;rw[Os (by simp[Region.wanted,hg])];exact a3 s6
  | some jb=>
   obtain⟨j,b⟩:=jb;rw[hg]at s6;obtain⟨t,c,g1,g2,g3⟩:=s6;have ck:t∈Ti l.toArray o:=by unfold Ti G9;simp[hg,g1]
   have hv:a.eval (.tmp t)=c:=by
    obtain⟨⟨_,β,_,_,Ht,_⟩,_⟩:=a2;have:=Ht t;rw[cd t ck,g2]at this;exact this.s_inv
   have hw:=YF hg g1 hv
   cases ax:e.on with
   |true=>
    rw[Os (by rw[hw,<-g3,ax])];exact a3 ax
   |false=>
    rw[Of (by rw[hw,<-g3,ax];simp)];obtain⟨v1,v2⟩:=s5 ax;refine⟨λ_ _=>trivial,bk _ _ ?_⟩;rw[v1,v2];exact QG.bot a2 o.dst s2
 have cb:∀(S:Nat) (L:Array Bool) (a:Act) (w:World),Gr (λi=>!cG L i) l.toArray.size<=S->J L a w->wpAnyIn (Cd F.ro) 0 P .any l.toArray QQ S L a w:=by
  intro S
  induction S with
  | zero=>
   intro L a w hf B
   have b1:∀i,i<l.toArray.size->cG L i=true:=by
    intro i hi
    cases hl:cG L i with
    |true=>rfl
    |false=>
     exfalso;have h:=Zg (p:=λj=>!cG L j&&j != i) (q:=λj=>!cG L j) l.toArray.size i hi zW (λj hj=>by simp[hj]);simp[hl]at h;simp at hf;omega
   refine⟨?_,bf L a w b1 B⟩
   cases hr:Region.ready .any l.toArray L with
   |nil=>rfl
   |cons i cl=>
    obtain⟨o,I,hl,_⟩:=ZH (a1 _ _ _ B).1 (i:=i) (by rw[hr];simp);rw[b1 i (zCo.1 I).1]at hl;cases hl
  |succ S ih=>
   intro L a w hf B;refine⟨λhr=>bf L a w (λi hi=>Ui hA (a1 _ _ _ B).1 hr (i+1) i (by omega) hi) B,λi hi=>?_⟩;refine bx L a w i B hi _ (λM w' cf=>ih _ _ _ ?_ cf);obtain⟨o,I,hl,_⟩:=ZH (a1 _ _ _ B).1 hi;have E:i<l.toArray.size:=(zCo.1 I).1;have h:=Zg (p:=λj=>!cG (L.setIfInBounds i true) j) (q:=λj=>!cG L j) l.toArray.size i E (by simp[QK L i i (by rw[(a1 _ _ _ B).1];exact E)]) (λj hj=>by simp[QK L i j (by rw[(a1 _ _ _ B).1];exact E),hj]);simp[hl]at h;simp at hf⊢;omega
 refine Code.wpIn_mono (λe M w' ⟨he,s,h1,h2⟩=>⟨s,by rw[he];exact h1,h2⟩) (wpIn_region_any hm (cb _ _ _ _ (L1 _ _) ?_))
 have hf:∀i,cG (Array.replicate l.toArray.size false) i=false:=by
  intro i;unfold cG;simp only[zBe,Array.getElem?_replicate]
  split<;>rfl
 refine .inl ⟨⟨by simp,λi o _ hl=>?_⟩,λi _=>hf i,?_⟩
 .rw[hf]at hl;cases hl
 .rw[QN R 0 st λj _=>hf _];obtain⟨⟨X,β,hX,HH,Ht,KK,B,hD⟩,nd,gs,hl⟩:=H;have G:=wG.drew HH (w.drawn+1);exact⟨⟨X,β,hX,G.hok,λt=>(Ht t).evo G.evo,KK.goes G nd (G.lives HH nd),λi hi=>F.go G (B i hi),hD.goes HH G⟩,nd,gs,hl⟩
theorem Yo {id:Nat} {u:List JC} {Q:Exit->St->Prop} (A:P.follows .mixedOrders=true) (hT:Tr P m l.toArray l st u st') (z:GK l (KZ l) (u.map JC.fp)=true) (B:Q .normal st'):
  uR P F m (.region id l.toArray true) st Q:=by
 refine GL (ln l) A (by rw[zAb];exact hT) ?_ (by rw[zEk];exact λa w H=>⟨rfl,_,B,H⟩);unfold SA;unfold GK at z;rw[z,zAo,zAn,zAq];refine⟨zDt (zAg _),λj hj=>?_⟩;rw[show Nat.blt j (ln l)=true from zDt (zA3.1 hj),zC6]
end
def ye (h:(nm (ln TT)).map (λt=>To P t)=TT.map some):qS P TT:=λt z u=>by
 have hl:=(zAz.1 u).1;have:=zAv (·[t]?) h;simp only[zAi,u,zB8,zBu hl]at this;simpa using this
def K6 (P:Program) (F:Fr K0) (m:Nat) (ops:Array Oper):Bool->List Oper->St->List FP->(List FP->St->Prop)->Prop
 |false,l,st,_,Q=>ER P F m ops l st (Q [])
 |true,l,st,fs,Q=>∃u st',Tr P m ops l st u st'/\Q ((u.map JC.fp).reverse++fs) st'
structure yQ (P:Program) {K0:List Nat} (F:Fr K0) (m:Nat) (ops:Array Oper) (dr:Bool) (l:List Oper) (st:St) (fs:List FP) (Q:List FP->St->Prop):Prop where
 run:K6 P F m ops dr l st fs Q
section
variable {P:Program} {K0:List Nat} {F:Fr K0} {m:Nat} {ops:Array Oper} {rest:List Oper} {Q:List FP->St->Prop} {tm:List (Nat×AV)} {h:List (Nat×wB)} {dr:Bool} {fs:List FP}
def uT {u:St->Prop} (z:u st):yQ P F m ops false [] st fs (λ_ s=>u s):=⟨Qu z⟩
def dH {u:St->Prop} (hc:GK l (KZ l) fs.reverse=true) (z:u st):yQ P F m ops true [] st fs (λfs s=>GK l (KZ l) fs.reverse=true/\u s):=⟨⟨[],st,rfl,hc,z⟩⟩
def ET {o:Oper} {e:JC} (u:e.on=true) (A:o.guard=none) (hs:vC P st o.op e.v e.d e.r e.nw) (C:∀k,k∈e.nw->zE st.h k=none) (hd:uN e.d=true) (B:∀t,o.dst=some t->t<m)
 (G:st'=st.app o.dst e.v e.d) (hk:yQ P F m ops dr rest st' (e.fp::fs) Q):yQ P F m ops dr (o::rest) st fs Q:=by
 subst G
 cases dr with
 |false=>exact⟨ao A hs C hd B (λt=>QL _ _ _ _ _) (funext λk=>VU _ _ _ _ _) hk.run⟩
 |true=>
  obtain⟨E,z,h1,h2⟩:=hk.run;refine⟨⟨e::E,z,⟨⟨hd,B,C,(λ_=>hs),(λh=>by rw[u]at h;cases h),by rw[A];exact u⟩,h1⟩,?_⟩⟩;simpa using h2
section
variable {op:Op} {ty:Nat} {pos:String} {after:Array Edge} {t:Nat} {v:AV} {r nw:List Nat}
def yE (hs:vC P ⟨tm,h⟩ op v [] r []) (u:Nat.blt t m=true) (hk:yQ P F m ops dr rest ⟨(t,v)::tm,h⟩ (⟨true,[],r⟩::fs) Q):yQ P F m ops dr (⟨some t,op,ty,pos,after,none⟩::rest) ⟨tm,h⟩ fs Q:=
 ET (e:=⟨true,v,[],r,[]⟩) Z Z hs zW Z (λj hj=>by cases hj;exact zAt u) Z hk
def qB {k:Nat} (hs:vC P ⟨tm,h⟩ op v [(k,e)] r nw) (u:Nat.blt t m=true) (z:nw.all (λj=>(zE h j).isNone)=true) (hd:uN [(k,e)]=true) (hk:yQ P F m ops dr rest ⟨(t,v)::tm,(k,e)::h⟩ (⟨true,k::nw,r⟩::fs) Q):
  yQ P F m ops dr (⟨some t,op,ty,pos,after,none⟩::rest) ⟨tm,h⟩ fs Q:=
 ET (e:=⟨true,v,[(k,e)],r,nw⟩) Z Z hs (λj hj=>by have:=zAq.1 z j hj;simpa using this) hd (λj hj=>by cases hj;exact zAt u) Z hk
def C8 {k:Nat} (hs:vC P ⟨tm,h⟩ op v [(k,e)] r nw) (u:nw.all (λj=>(zE h j).isNone)=true) (hd:uN [(k,e)]=true) (hk:yQ P F m ops dr rest ⟨tm,(k,e)::h⟩ (⟨true,k::nw,r⟩::fs) Q):yQ P F m ops dr (⟨none,op,ty,pos,after,none⟩::rest) ⟨tm,h⟩ fs Q:=
 ET (e:=⟨true,v,[(k,e)],r,nw⟩) Z Z hs (λj hj=>by have:=zAq.1 u j hj;simpa using this) hd (λj hj=>by cases hj) Z hk
def ZR (hs:vC P ⟨tm,h⟩ op v d r nw) (u:Nat.blt t m=true) (z:nw.all (λj=>(zE h j).isNone)=true) (hd:uN d=true) (hk:yQ P F m ops dr rest ⟨(t,v)::tm,d++h⟩ (⟨true,xD d++nw,r⟩::fs) Q):
  yQ P F m ops dr (⟨some t,op,ty,pos,after,none⟩::rest) ⟨tm,h⟩ fs Q:=
 ET (e:=⟨true,v,d,r,nw⟩) Z Z hs (λj hj=>by have:=zAq.1 z j hj;simpa using this) hd (λj hj=>by cases hj;exact zAt u) Z hk
end
theorem GJ.on {P:Program} {m:Nat} {ops:Array Oper} {d:Option Nat} {j:Nat} {e:JC} (u:UU ops j=some t) (hv:zM st.tm t= .s (.bool b)) (hs:GJ P m ops ⟨d,op,ty,pos,after,none⟩ st e):
 GJ P m ops ⟨d,op,ty,pos,after,some (j,b)⟩ st e:=by grind [UU,zM,GJ,gw]
def xe {d:Option Nat} {j:Nat} (A:UU ops j=some t) (hv:zM st.tm t= .s (.bool b)) (hk:yQ P F m ops dr (⟨d,op,ty,pos,after,none⟩::rest) st fs Q):
  yQ P F m ops dr (⟨d,op,ty,pos,after,some (j,b)⟩::rest) st fs Q:=by
 cases dr with
 |false=>exact⟨M1 A hv hk.run⟩
 |true=>
  obtain⟨u,z,h1,h2⟩:=hk.run
  cases u with
  |nil=>exact h1.elim
  |cons e u=>exact⟨⟨e::u,z,⟨h1.1.on A hv,h1.2⟩,h2⟩⟩
def JD {d:Nat} {j:Nat} (A:UU ops j=some t) (hv:zM tm t= .s c) (hc:gw c b=false) (z:Nat.blt d m=true) (hk:yQ P F m ops dr rest ⟨(d,.s undef)::tm,h⟩ (⟨false,[],[]⟩::fs) Q):
  yQ P F m ops dr (⟨some d,op,ty,pos,after,some (j,b)⟩::rest) ⟨tm,h⟩ fs Q:=by
 cases dr with
 |false=>exact⟨Pu A hv hc z hk.run⟩
 |true=>
  obtain⟨B,u,h1,h2⟩:=hk.run;refine⟨⟨⟨false,.s undef,[],[],[]⟩::B,u,⟨⟨rfl,(λj hj=>by cases hj;exact zAt z),by simp,(λh=>by cases h),(λ_=>⟨rfl,rfl⟩),t,c,A,hv,hc.symm⟩,h1⟩,?_⟩⟩;rw[zBk,List.reverse_cons,zA0];exact h2
def Lu {t:Nat} {c:Bool} (hv:zM st.tm t= .s (.bool c)) (h1:c=true->yQ P F m ops false l ⟨(t,.s (.bool true))::st.tm,st.h⟩ fs Q) (h2:c=false->yQ P F m ops false l ⟨(t,.s (.bool false))::st.tm,st.h⟩ fs Q):yQ P F m ops false l st fs Q:=⟨Wi hv (λh=>(h1 h).run) (λh=>(h2 h).run)⟩
def gY {d:Option Nat} {j t:Nat} {c:Bool} (u:UU ops j=some t) (hv:zM tm t= .s (.bool c)) (h1:c=true->yQ P F m ops false (⟨d,op,ty,pos,after,some (j,b)⟩::rest) ⟨(t,.s (.bool true))::tm,h⟩ fs Q) (h2:c=false->yQ P F m ops false (⟨d,op,ty,pos,after,some (j,b)⟩::rest) ⟨(t,.s (.bool false))::tm,h⟩ fs Q):
  yQ P F m ops false (⟨d,op,ty,pos,after,some (j,b)⟩::rest) ⟨tm,h⟩ fs Q:=by
 have:=u;exact Lu (st:=⟨tm,h⟩) hv h1 h2
section
variable {ty t:Nat} {pos:String} {after:Array Edge} {st:St} {g:Option (Nat×Bool)} {d:Option Nat}
def xO {c:Operand} {u:Array Operand} {z:Array Nat} (hk:yQ P F m ops dr (⟨some t,(.call ⟨.value c,u,z⟩),ty,pos,after,none⟩::rest) st fs Q):yQ P F m ops dr (⟨some t,(.call ⟨.value c,u,z⟩),ty,pos,after,none⟩::rest) st fs Q:=hk
def xZ {op:BinOp} {u:Nat} (hk:yQ P F m ops dr (⟨some t,(.binOp op tx x y u),ty,pos,after,none⟩::rest) st fs Q):yQ P F m ops dr (⟨some t,(.binOp op tx x y u),ty,pos,after,none⟩::rest) st fs Q:=hk
def SD (hk:yQ P F m ops dr (⟨some t,(.indexAddr tx x y),ty,pos,after,none⟩::rest) st fs Q):yQ P F m ops dr (⟨some t,(.indexAddr tx x y),ty,pos,after,none⟩::rest) st fs Q:=hk
def YH (hk:yQ P F m ops dr (⟨some t,(.load tx x),ty,pos,after,none⟩::rest) st fs Q):yQ P F m ops dr (⟨some t,(.load tx x),ty,pos,after,none⟩::rest) st fs Q:=hk
def SE {n:Nat} (hk:yQ P F m ops dr (⟨some t,(.fieldAddr tx x n),ty,pos,after,none⟩::rest) st fs Q):yQ P F m ops dr (⟨some t,(.fieldAddr tx x n),ty,pos,after,none⟩::rest) st fs Q:=hk
def gA (hk:yQ P F m ops dr (⟨none,(.store tx x y),ty,pos,after,none⟩::rest) st fs Q):yQ P F m ops dr (⟨none,(.store tx x y),ty,pos,after,none⟩::rest) st fs Q:=hk
def bT {j:Nat} (hk:yQ P F m ops dr (⟨d,op,ty,pos,after,some (j,b)⟩::rest) st fs Q):yQ P F m ops dr (⟨d,op,ty,pos,after,some (j,b)⟩::rest) st fs Q:=hk
def zG (hk:yQ P F m ops dr l st fs Q):yQ P F m ops dr l st fs Q:=hk
end
def xF {Q:Exit->St->Prop} {id:Nat} (hk:yQ P F m l.toArray false l st [] (λ_ s=>Q .normal s)):uR P F m (.region id l.toArray false) st Q:=Ad hk.run
def vQ {Q:Exit->St->Prop} {id:Nat} (B:P.follows .mixedOrders=true) (hk:yQ P F m l.toArray true l st [] (λfs s=>GK l (KZ l) fs.reverse=true/\Q .normal s)):uR P F m (.region id l.toArray true) st Q:=by
 obtain⟨z,u,h1,h2,A⟩:=hk.run
 grind [GK,KZ,Yo]
end
