/- Part 2. -/
import Derived.Test.YteajjdidebfcjaaGreatV01
import Derived.Tactics
import Derived.Deep.LoopGhost
import Derived.TacticsIn
import Derived.OrdersIn
import Derived.RangeFuncCalls
import Derived.RangeFuncRecord
import Derived.LoopIn
import Derived.RangeFuncLeaves
import Derived.Orders
namespace Go.Proofs.YteajjdidebfcjaaGreat
namespace Av
set_option linter.all false
section
def Own (β:uW) (b:Nat):Prop:=∃k n,(b,n)∈β k
abbrev GS:Nat:=1000000
def DB (ro:Option Nat):Fence:={Fence.wide with round:=ro}
structure Fr (K0:List Nat) where
 X:Nat->Prop
 w0:World
 β0:uW
 h0:yJ
 hK:∀k b n,(b,n)∈β0 k->k∈K0
 hh:∀k e,h0 k=some e->k∈K0
 ro:Option Nat
 it:Bool
 V:Nat->Prop
 J:Nat->(Nat->Prop)->(Nat->Prop)->World->Prop
 Jst:∀i O X w w' O',J i O X w->w.heap.size<=w'.heap.size->(∀b,b<w.heap.size->¬O b->w'.heap[b]? =w.heap[b]?)->(∀b,O' b->O b∨w.heap.size<=b)->(∀b,O' b->b<w'.heap.size)->w'.os=w.os->w'.tape=w.tape->w'.output=w.output->J i O' X w'
def zXp (h:yJ) (k:Nat):xN->Prop
 | .box _=>∃cs,h k=some (.box cs)
 | .obj _=>∃cs,h k=some (.obj cs)
 | .arr sz xs _=>∃xs' st,h k=some (.arr sz xs' st)/\xs.length<=xs'.length
 | .dead=>False
variable {K0:List Nat}
structure gZ (F:Fr K0) (h:yJ) (β:uW) (w:World):Prop where
 knd:∀k e,F.h0 k=some e->zXp h k e
 size:F.w0.heap.size<=w.heap.size
 keep:∀b,b<F.w0.heap.size->¬F.V b->(∀k n,(b,n)∉F.β0 k)->w.heap[b]? =F.w0.heap[b]?
 own:∀k b n,(b,n)∈β k->(∃k' n',(b,n')∈F.β0 k')∨F.w0.heap.size<=b
 pas:∀k b n,(b,n)∈F.β0 k->∃n',n<=n'/\(b,n')∈β k
 bs:∀k b n,(b,n)∈F.β0 k->wG w b=wG F.w0 b
 os:w.os=F.w0.os
 tape:w.tape=F.w0.tape
 output:w.output=F.w0.output
def uG:List (Nat×xN)->Bool
 | []=>true
 |(_,.dead)::_=>false
 |_::r=>uG r
theorem qI:∀{d:List (Nat×xN)} {k:Nat},uG d=true->zC d k≠some .dead
 | [],k,_=>by simp[zC]
 |(j,e)::r,k,h=>by
  unfold zC
  cases e with
  |dead=>simp[uG]at h
  |box cs=>cases Nat.beq k j<;>simp;exact qI (by simpa [uG]using h)
  |obj cs=>cases Nat.beq k j<;>simp;exact qI (by simpa [uG]using h)
  |arr a b c=>cases Nat.beq k j<;>simp;exact qI (by simpa [uG]using h)
def zQw (β β':uW):Prop:=∀k b n,(b,n)∈β k->∃n',n<=n'/\(b,n')∈β' k
theorem xK.lives {X:Nat->Prop} {w w':World} {h h':yJ} {β β':uW} (H:jK X h β w) (G:xK X w h β w' h' β') (hd:∀k,h' k≠some .dead):zQw β β':=by
 intro k b n hm
 cases he:h k with
 |none=>rw[H.off k he]at hm;simp at hm
 | some e=>
  rcases G.key k e he with h1|h1
  ·exact absurd h1 (hd k)
  ·cases e with
   |dead=>exact h1.elim
   |box cs=>exact⟨n,zX7 _,h1.2 b n hm⟩
   |obj cs=>exact⟨n,zX7 _,h1.2 b n hm⟩
   |arr sz xs st=>exact h1.2 b n hm
theorem gZ.goes {F:Fr K0} {X:Nat->Prop} {β β':uW} {w w':World} {h h':yJ} (K:gZ F h β w) (G:xK X w h β w' h' β') (nd:∀k,h' k≠some .dead) (hl:zQw β β'):gZ F h' β' w' where
 knd k e he:=by
  have h1:=K.knd k e he
  cases e with
  |dead=>exact h1
  |box cs=>
   obtain⟨cs',h2⟩:=h1;exact((G.key k _ h2).resolve_left (nd k)).1
  |obj cs=>
   obtain⟨cs',h2⟩:=h1;exact((G.key k _ h2).resolve_left (nd k)).1
  |arr sz xs st=>
   obtain⟨xs',st',h2,h3⟩:=h1;obtain⟨xs'',st'',h4,h5⟩:=((G.key k _ h2).resolve_left (nd k)).1;exact⟨xs'',st'',h4,zY9 h3 h5⟩
 size:=zY9 K.size G.size
 keep b hb hi hn:=by
  rw[G.keep b (zZe hb K.size),K.keep b hb hi hn];intro k n hm
  rcases K.own k b n hm with⟨k',n',h1⟩|h1
  ·exact hn _ _ h1
  ·omega
 own k b n hm:=by
  rcases G.own k b n hm with⟨k',n',h1⟩|h1
  ·exact K.own k' b n' h1
  ·exact .inr (zY9 K.size h1)
 pas k b n hm:=by
  obtain⟨n',h1,h2⟩:=K.pas k b n hm;obtain⟨n'',h3,h4⟩:=hl k b n' h2;exact⟨n'',zY9 h1 h3,h4⟩
 bs k b n hm:=by
  obtain⟨n',_,h2⟩:=K.pas k b n hm;rw[G.bs k b n' h2,K.bs k b n hm]
 os:=G.os.trans K.os
 tape:=G.tape.trans K.tape
 output:=G.output.trans K.output
def DOK (X:Nat->Prop) (F:Fr K0) (ds:List Deferred) (w:World):Prop:=
 ∃bs:List Nat,ds=bs.map (λb=>{target:= .collected b,args:= #[]})/\(F.it=true->bs=[])/\bs.Nodup/\∀b,b∈bs->X b/\F.w0.heap.size<=b/\w.heap[b]? =some (.deferred (some []))
theorem DOK.goes {X:Nat->Prop} {F:Fr K0} {ds:List Deferred} {w w':World} {h h':yJ} {β β':uW} (H:jK X h β w) (D:DOK X F ds w) (G:xK X w h β w' h' β'):DOK X F ds w':=by
 obtain⟨bs,h1,h0,h2,h3⟩:=D;refine⟨bs,h1,h0,h2,λb hb=>?_⟩;obtain⟨q1,q2,q3⟩:=h3 b hb;exact⟨q1,q2,by rw[G.keep b (H.lt b (.inl q1)) λk n hm=>H.free k b n hm q1];exact q3⟩
theorem Fr.go {F:Fr K0} {X:Nat->Prop} {w w':World} {h h':yJ} {β β':uW} {i:Nat} (G:xK X w h β w' h' β') (hj:F.J i (Own β) X w):F.J i (Own β') X w':=
 F.Jst i _ X w w' _ hj G.size (λb hb hn=>G.keep b hb λk n hm=>hn ⟨k,n,hm⟩) (λb ⟨k,n,hm⟩=>(G.own k b n hm).imp (λ⟨k',n',h⟩=>⟨k',n',h⟩) id) (λb ⟨k,n,hm⟩=>G.hok.lt b (.inr ⟨k,n,hm⟩)) G.os G.tape G.output
def XOK (F:Fr K0) (X:Nat->Prop):Prop:=(∀b,F.X b->X b)/\∀b,X b->F.X b∨F.w0.heap.size<=b
structure VD (F:Fr K0) (m:Nat) (tm:Nat->AV) (h:yJ) (a:Act) (w:World):Prop where
 ex:∃X β,XOK F X/\jK X h β w/\(∀t,yB w (xO X β) h β (tm t) (a.eval (.tmp t)))/\gZ F h β w/\(∀i,tm GS= .gh i->F.J i (Own β) X w)/\DOK X F a.defers w
 nd:∀k,h k≠some .dead
 gs:m<=GS
 len:a.tmps.size=m
def wN (F:Fr K0) (m:Nat) (st:St):Act->World->Prop:=VD F m (zG st.tm) (zC st.h)
def yP (t:Nat) (v:AV) (tm:List (Nat×AV)) (j:Nat):zG ((t,v)::tm) j=if j=t then v else zG tm j:=by
 conv=>lhs;unfold zG
 by_cases h:j=t
 ·subst h;simp
 ·rw[zX2 h,XE h];rfl
def xG (t:Nat) (v:xN) (tm:List (Nat×xN)) (j:Nat):zC ((t,v)::tm) j=if j=t then some v else zC tm j:=by
 conv=>lhs;unfold zC
 by_cases h:j=t
 ·subst h;simp
 ·rw[zX2 h,XE h];rfl
theorem vG:∀(d h:List (Nat×xN)),zC (d++h)=over d (zC h)
 | [],_=>rfl
 |(k,e)::r,h=>by
  funext j
  have ih:=congrFun (vG r h) j;simp only[yA0,over,xG]at *; split
  ·rfl
  ·exact ih
theorem aU.wp {P:Program} {ro:Option Nat} {o:Oper} {a:Act} {w:World} {K:Act->World->Prop} {Q:Exit->Act->World->Prop} {N:Value->World->Prop} (hd:aU P N ((execOp a.eval o).run P w)) (h:∀c w',N c w'->K (a.put o.dst c) w'):o.wpIn (DB ro) 0 P a w K Q:=by
 have hs:(o.semAt (DB ro).round a.eval).run P w=(execOp a.eval o).run P w:=by
  show(o.semAt ro a.eval).run P w=_
  cases ro with
  |none=>rfl
  | some l=>
   by_cases hdf:∃c,o.op= .defer c
   ·exfalso;obtain⟨c,hc⟩:=hdf;revert hd;unfold execOp;rw[hc];simp only[Sem.run_bind]
    cases (resolve a.eval c o.type).run P w<;>simp[Result.andThen,aU]
   ·rw[Oper.semAt_some l _ _ λc hc=>hdf ⟨c,hc⟩]
 refine⟨λ_ _=>trivial,?_⟩;rw[hs];generalize (execOp a.eval o).run P w=r at hd
 cases r with
 |halt x w'=>exact hd.elim
 | ok n w'=>
  cases n with
  |value c=>exact h _ _ hd
  |skip=>exact h _ _ hd
  |enter f args=>
   refine⟨λhx=>by simp[DB,Fence.wide]at hx,?_⟩;exact callsIn_wide.2 (Calls.mono hd λe w'' ⟨c,he,hn⟩=>by subst he;exact h _ _ hn)
  |_=>exact hd.elim
theorem VD.put {F:Fr K0} {X:Nat->Prop} {m:Nat} {tm:Nat->AV} {h h':yJ} {a:Act} {w w':World} {β β':uW} (hX:XOK F X) (H:jK X h β w) (hv:∀t,yB w (xO X β) h β (tm t) (a.eval (.tmp t))) (K:gZ F h β w) (hJ:∀i,tm GS= .gh i->F.J i (Own β) X w) (hd:DOK X F a.defers w) (gs:m<=GS) (hl:a.tmps.size=m)
  (G:xK X w h β w' h' β') (nd:∀k,h' k≠some .dead) {v:AV} {c:Value} (hc:yB w' (xO X β') h' β' v c) (dst:Option Nat) (hm:∀d,dst=some d->d<m):
  VD F m (λt=>if dst=some t then v else tm t) h' (a.put dst c) w':=by
 refine⟨⟨X,β',hX,G.hok,λt=>?_,K.goes G nd (G.lives H nd),λi hi=>?_,by have:=hd.goes H G;cases dst<;>exact this⟩,nd,gs,by cases dst<;>simp[Act.put,hl]⟩
 ·split
  ·rename_i ht;subst ht;have:t<a.tmps.size:=by rw[hl];exact hm t Z
   have e:(a.put (some t) c).eval (.tmp t)=c:=by simp[Act.put,Act.eval,this]
   rw[e];exact hc
  ·rename_i ht;rw[Act.eval_put (λd hd e=>ht (by rw[hd];injection e with e;rw[e]))];exact(hv t).evo G.evo
 ·rw[zX2 (λe=>by have:=hm GS e;omega)]at hi;exact F.go G (hJ i hi)
theorem wV.rel {P:Program} {st:St} {o:Oper} {v:AV} {d:List (Nat×xN)} {r nw:List Nat} (hs:wV P st o.op v d r nw) {F:Fr K0} {m:Nat} {tm:Nat->AV} {h:yJ} {a:Act} {w:World} (H:VD F m tm h a w)
  (h1:∀t,t∈eV o.op->tm t=zG st.tm t) (h2:∀k,k∈r->h k=zC st.h k) (h3:∀k,k∈nw->h k=none) (hd:uG d=true) (hm:∀t,o.dst=some t->t<m) {K:Act->World->Prop} {Q:Exit->Act->World->Prop}
  (hK:∀a' w',VD F m (λt=>if o.dst=some t then v else tm t) (over d h) a' w'->K a' w'):o.wpIn (DB F.ro) 0 P a w K Q:=by
 obtain⟨⟨X,β,hX,HH,Ht,KK,hJ,hD⟩,nd,gs,hl⟩:=H;refine aU.wp (hs.run X tm h h1 h2 h3 o a w β rfl HH Ht) ?_;rintro c w' ⟨β',G,hc⟩
 have nd':∀k,over d h k≠some .dead:=λk=>by
  unfold over;split
  ·rename_i e he;intro h4;cases h4;exact qI hd he
  ·exact nd k
 exact hK _ _ (VD.put hX HH Ht KK hJ hD gs hl G nd' hc o.dst hm)
def QK {F:Fence} {n:Nat} {P:Program} {Q:Exit->Act->World->Prop} {a:Act} {w:World} {c:Code} (I:Nat->Act->World->Prop) (n₀:Nat) (h₀:I n₀ a w)
  (round:∀k a w,I k a w->c.wpIn F n P (Exit.then (λa' w'=>∃k',k'<k/\I k' a' w') Q) a w):(Code.loop c).wpIn F n P Q a w:=by
 refine wpIn_loop (λa w=>∃k,I k a w) (λa w=>leastOf (λk=>I k a w)) ⟨n₀,h₀⟩ ?_;intro a w hI;refine wpIn_mono (round _ a w (leastOf_spec hI).1) ?_;intro e a' w' hq
 cases e with
 |normal=>
  obtain⟨n',hlt,hI'⟩:=hq;exact show(∃n,I n a' w')/\leastOf (λn=>I n a' w')<leastOf (λn=>I n a w)from⟨⟨n',hI'⟩,Nat.lt_of_le_of_lt ((leastOf_spec ⟨n',hI'⟩).2 n' hI') hlt⟩
 |_=>exact hq
structure uQ (P:Program) (F:Fr K0) (m:Nat) (c:Code) (st:St) (Q:Exit->St->Prop):Prop where
 run:∀a w,wN F m st a w->c.wpIn (DB F.ro) 0 P (λe a' w'=>∃st',Q e st'/\wN F m st' a' w') a w
def GL (P:Program) (F:Fr K0) (m:Nat) (ops:Array Oper) (l:List Oper) (st:St) (Q:St->Prop):Prop:=
 ∀a w,wN F m st a w->wpListIn (DB F.ro) 0 P ops (λe a' w'=>e= .normal/\∃st',Q st'/\wN F m st' a' w') l a w
section
variable {P:Program} {F:Fr K0} {m:Nat} {Q:Exit->St->Prop} {st:St}
theorem uQ.mono {c:Code} {Q':Exit->St->Prop} (h:uQ P F m c st Q) (hq:∀e s,Q e s->Q' e s):uQ P F m c st Q':=
 ⟨λa w H=>Code.wpIn_mono (λ_ _ _ ⟨s,h1,h2⟩=>⟨s,hq _ _ h1,h2⟩) (h.run a w H)⟩
def yZ (h:Q .normal st):uQ P F m .skip st Q:=⟨λ_ _ H=>wpIn_skip ⟨st,h,H⟩⟩
def yU (h:Q .ret st):uQ P F m .ret st Q:=⟨λ_ _ H=>wpIn_ret ⟨st,h,H⟩⟩
def xB {id:Nat} (h:Q (.exit id) st):uQ P F m (.exit id) st Q:=⟨λ_ _ H=>wpIn_exit ⟨st,h,H⟩⟩
def XW (P:Program) (F:Fr K0) (m:Nat) (y:Code) (Q:Exit->St->Prop):Exit->St->Prop
 | .normal,s=>uQ P F m y s Q
 |e,s=>Q e s
def xS {x y:Code} (h:uQ P F m x st (XW P F m y Q)):uQ P F m (.seq x y) st Q:=⟨λa w H=>
 wpIn_seq (Code.wpIn_mono (λe a' w' ⟨s,h1,h2⟩=>by
  cases e with
  |normal=>exact uQ.run h1 a' w' h2
  |_=>exact⟨s,h1,h2⟩) (h.run a w H))⟩
def xH {c:Operand} {x y:Code} {t:Bool} (hc:yM (zG st.tm) c= .s (.bool t)) (h1:t=true->uQ P F m x st Q) (h2:t=false->uQ P F m y st Q):uQ P F m (.cond c x y) st Q:=⟨λa w H=>by
 have hv:a.eval c= .bool t:=by
  obtain⟨⟨_,β,_,_,Ht,_⟩,_⟩:=H;have:=PE Ht c;rw[hc]at this;exact this.s_inv
 exact wpIn_cond_split hv (λh=>(h1 h).run a w H) (λh=>(h2 h).run a w H)⟩
def yC {c:Operand} {x y:Code} (hc:yM (zG st.tm) c= .s (.bool true)) (h:uQ P F m x st Q):uQ P F m (.cond c x y) st Q:=xH hc (λ_=>h) (λh=>by cases h)
def zU {c:Operand} {x y:Code} (hc:yM (zG st.tm) c= .s (.bool false)) (h:uQ P F m y st Q):uQ P F m (.cond c x y) st Q:=xH hc (λh=>by cases h) (λ_=>h)
def inB (id:Nat) (Q:Exit->St->Prop):Exit->St->Prop
 | .exit id',s=>bif Nat.beq id' id then Q .normal s else Q (.exit id') s
 |e,s=>Q e s
def yQ {id:Nat} {c:Code} (h:uQ P F m c st (inB id Q)):uQ P F m (.block id c) st Q:=⟨λa w H=>
 wpIn_block (Code.wpIn_mono (λe a' w' ⟨s,h1,h2⟩=>by
  cases e with
  |exit id'=>
   simp only[Exit.inBlock];split
   ·rename_i he;subst he;simp only[inB,zEx,zZo]at h1;exact⟨s,h1,h2⟩
   ·rename_i he;simp only[inB,XE he,zZ6]at h1;exact⟨s,h1,h2⟩
  |_=>exact⟨s,h1,h2⟩) (h.run a w H))⟩
def zAp {id:Nat} {l:List Oper} (h:GL P F m l.toArray l st (Q .normal)):uQ P F m (.region id l.toArray false) st Q:=⟨λa w H=>
 Code.wpIn_mono (λe a' w' ⟨he,s,h1,h2⟩=>by subst he;exact⟨s,h1,h2⟩) (wpIn_region_lit (h a w H))⟩
end
end
mutual
def AV.refs:AV->List Nat
 | .ref k _ _| .ptr k _ _=>[k]
 | .agg cs| .fn _ cs| .tup cs=>jO cs
 |_=>[]
def jO:List AV->List Nat
 | []=>[]
 |v::r=>v.refs++jO r
end
mutual
def AV.nosl:AV->Bool
 | .sl _ _| .slc _ _| .fp _ _ _| .fm _ _=>false
 | .agg cs| .fn _ cs| .tup cs=>OP cs
 |_=>true
def OP:List AV->Bool
 | []=>true
 |v::r=>v.nosl&&OP r
end
mutual
def qS (K:List Nat) (h:yJ):AV->AV
 | .ref k off len=>bif K.contains k then .ref k off len else match h k with
  |some (.arr _ xs fl)=>bif fl.nest then .bot else .sl false ((xs.drop off).take len)
  |_=> .bot
 | .ptr k i off=>bif K.contains k then .ptr k i off else .bot
 | .agg cs=> .agg (wT K h cs)
 | .fn f cs=> .fn f (wT K h cs)
 | .tup cs=> .tup (wT K h cs)
 |v=>v
def wT (K:List Nat) (h:yJ):List AV->List AV
 | []=>[]
 |v::r=>qS K h v::wT K h r
end
mutual
def wQ (K:List Nat) (h:yJ):AV->AV
 | .ref k off len=>bif K.contains k then .ref k off len else match h k with
  |some (.arr _ xs fl)=>bif fl.nest then(bif wF (wT K h xs)then .sl false (((wT K h xs).drop off).take len)else .bot)else .sl false ((xs.drop off).take len)
  |_=> .bot
 | .ptr k i off=>bif K.contains k then .ptr k i off else .bot
 | .agg cs=> .agg (qN K h cs)
 | .fn f cs=> .fn f (qN K h cs)
 | .tup cs=> .tup (qN K h cs)
 |v=>v
def qN (K:List Nat) (h:yJ):List AV->List AV
 | []=>[]
 |v::r=>wQ K h v::qN K h r
end
mutual
def VE:AV->AV
 | .s v=>match v with
  | .slice none 0 0=> .sl false []
  |v=> .s v
 | .sl _ xs=> .sl false xs
 | .agg cs=> .agg (wkL cs)
 | .fn f cs=> .fn f (wkL cs)
 | .tup cs=> .tup (wkL cs)
 |v=>v
def wkL:List AV->List AV
 | []=>[]
 |v::r=>VE v::wkL r
end
theorem wU:∀{cs:List AV} {i:Nat} {v:AV} {k:Nat},cs[i]? =some v->k∈v.refs->k∈jO cs
 | [],_,_,_,h,_=>by simp at h
 |x::r,0,v,k,h,hk=>by simp at h;subst h;simp[jO,hk]
 |x::r,i+1,v,k,h,hk=>by simp[jO,wU (show r[i]? =some v by simpa using h) hk]
theorem fX:∀{cs:List AV} {i:Nat} {v:AV},OP cs=true->cs[i]? =some v->v.nosl=true
 | [],_,_,_,h=>by simp at h
 |x::r,0,v,hk,h=>by simp at h;subst h;simp[OP]at hk;exact hk.1
 |x::r,i+1,v,hk,h=>by simp[OP]at hk;exact fX hk.2 TJ
theorem aQ (K:List Nat) (h:yJ):∀(cs:List AV) (i:Nat),(qN K h cs)[i]? =(cs[i]?).map (wQ K h)
 | [],i=>by simp[qN]
 |x::r,0=>by simp[qN]
 |x::r,i+1=>by simp[qN,aQ K h r i]
theorem bX (K:List Nat) (h:yJ):∀(cs:List AV) (i:Nat),(wT K h cs)[i]? =(cs[i]?).map (qS K h)
 | [],i=>by simp[wT]
 |x::r,0=>by simp[wT]
 |x::r,i+1=>by simp[wT,bX K h r i]
theorem kH (K:List Nat) (h:yJ):∀(cs:List AV),(wT K h cs).length=cs.length
 | []=>rfl
 |x::r=>by simp[wT,kH K h r]
def YF {v:AV} (h:v.isAgg=false):v.cells=[v]:=by cases v<;>first|rfl|(simp[AV.isAgg]at h)
def OQ (K:List Nat) (h:yJ) (x:AV):(qS K h x).cells=wT K h x.cells:=by
 cases x with
 |agg cs=>rfl
 | ref k off len=>
  refine YF ?_;unfold qS
  cases K.contains k with
  |true=>rfl
  | false=>
   simp only[zZ6]
   rcases h k with _|(_|⟨_,_,fl⟩|_|_)
   ·rfl
   ·rfl
   ·dsimp only
    cases fl.nest<;>rfl
   ·rfl
   ·rfl
 |ptr k i off=>refine YF ?_;unfold qS;cases K.contains k<;>rfl
 |_=>rfl
def OR (K:List Nat) (h:yJ) (x:AV):(wQ K h x).cells=qN K h x.cells:=by
 cases x with
 |agg cs=>rfl
 | ref k off len=>
  refine YF ?_;unfold wQ
  cases K.contains k with
  |true=>rfl
  | false=>
   simp only[zZ6]
   rcases h k with _|(_|⟨_,xs,fl⟩|_|_)
   ·rfl
   ·rfl
   ·dsimp only
    cases fl.nest with
    |false=>rfl
    |true=>
     simp only[zZo]
     cases wF (wT K h xs)<;>rfl
   ·rfl
   ·rfl
 |ptr k i off=>refine YF ?_;unfold wQ;cases K.contains k<;>rfl
 |_=>rfl
def RY {x:AV} (h:x.nokey=true):wF x.cells=true:=by
 by_cases ha:x.isAgg=true
 ·cases x<;>first
   |exact h
   |(simp[AV.isAgg]at ha)
 ·rw[YF (by simpa using ha)];simp[wF,h]
theorem uH (K:List Nat) (h:yJ):∀(cs:List AV),(qN K h cs).length=cs.length
 | []=>rfl
 |x::r=>by simp[qN,uH K h r]
theorem zAq:∀(cs:List AV) (i:Nat),(wkL cs)[i]? =(cs[i]?).map VE
 | [],i=>by simp[wkL]
 |x::r,0=>by simp[wkL]
 |x::r,i+1=>by simp[wkL,zAq r i]
theorem cK:∀(cs:List AV),(wkL cs).length=cs.length
 | []=>rfl
 |x::r=>by simp[wkL,cK r]
theorem zC0:∀cs:List AV,wkL cs=cs.map VE
 | []=>rfl
 |x::r=>by simp[wkL,zC0 r]
theorem xE.wk {w:World} {D:Nat->Prop}:∀{v:AV} {c:Value},xE w D v c->xE w D (VE v) c:=by
 intro v c hv
 induction hv with
 |bot c=>exact .bot c
 |gh n c=>exact .gh n c
 |s v=>
  unfold VE;split
  ·exact .nil _ _
  ·exact .s _
 | agg cs c hl h1 _ ih=>
  exact .agg _ c (by rw[cK];exact hl) h1 λi v hv=>by
   rw[zAq,zYf]at hv;obtain⟨u,hu,rfl⟩:=hv;exact ih i u hu
 |nil a cap=>exact .nil _ _
 |nil1 a cap=>exact .nil _ _
 |sl nn xs b o sz cap f hx hL hc hh _=>exact .sl false xs b o sz cap f hx hL hc hh
 |slc cap xs b o sz f hL hc hh _=>exact .slc cap xs b o sz f hL hc hh
 |fp xs b o sz i off f hL hi ho hh _=>exact .fp xs b o sz i off f hL hi ho hh
 |fm ob p b x ho hl hd hx hp=>exact .fm ob p b x ho hl hd hx hp
theorem yB.wk {w:World} {D:Nat->Prop} {h:yJ} {β:uW}:∀{v:AV} {c:Value},yB w D h β v c->yB w D h β (VE v) c:=by
 intro v c hv
 have key:∀{cs:List AV} {c:Array Value} (ih:∀(i:Nat) v,cs[i]? =some v->yB w D h β (VE v) (c.getD i undef)) (i:Nat) v,(wkL cs)[i]? =some v->yB w D h β v (c.getD i undef):=λih i v hv=>by
  rw[zAq,zYf]at hv;obtain⟨u,hu,rfl⟩:=hv;exact ih i u hu
 induction hv with
 |fz v c hf=>exact .fz _ _ hf.wk
 |agg cs c hl h1 _ ih=>exact .agg _ c (by rw[cK];exact hl) h1 (key ih)
 |fn f caps c hl _ ih=>exact .fn f _ c (by rw[cK];exact hl) (key ih)
 |tup vs c hl _ ih=>exact .tup _ c (by rw[cK];exact hl) (key ih)
 |dref k off len c hk h1=>exact .dref _ _ _ _ hk h1
 |dptr k i off c hk h1=>exact .dptr _ _ _ _ hk h1
 |ref k off len sz xs st b n cap hk hb hn hc hs=>exact .ref k off len sz xs st b n cap hk hb hn hc hs
 |ref0 k off sz xs st a hk hn=>exact .ref0 k off sz xs st a hk hn
 |pbox k off cs b n hk hb=>exact .pbox k off cs b n hk hb
 |parr k i off sz xs st b n hk hb hi ho=>exact .parr k i off sz xs st b n hk hb hi ho
theorem xE.free {w:World} {D D':Nat->Prop}:∀{v:AV} {c:Value},xE w D v c->v.nosl=true->xE w D' v c:=by
 intro v c hv
 induction hv with
 |bot c=>exact λ_=> .bot c
 |gh n c=>exact λ_=> .gh n c
 |s v=>exact λ_=> .s v
 |agg cs c hl h1 _ ih=>exact λhn=> .agg cs c hl h1 λi v hv=>ih i v hv (fX (by simpa [AV.nosl]using hn) hv)
 |_=>intro hn;simp[AV.nosl]at hn
theorem yB.fz0 {w:World} {X:Nat->Prop} {h:yJ} {β:uW} (H:jK X h β w) {K:List Nat} {h':yJ} {β':uW} {D':Nat->Prop}
  (hk:∀k,k∈K->∀e,h k=some e->match e with| .box _=>∃cs',h' k=some (.box cs')| .obj _=>∃cs',h' k=some (.obj cs')| .arr sz xs _=>∃xs' st',h' k=some (.arr sz xs' st')/\xs.length=xs'.length| .dead=>h' k=some .dead) (hβ:∀k,k∈K->β' k=β k) (hD:∀b,b<w.heap.size->¬xO X β b->¬D' b)
  {v:AV} {c:Value} (hv:yB w (xO X β) h β v c):(∀k,k∈v.refs->k∈K∨∀b n,(b,n)∈β k->¬D' b)->yB w D' h' β' (qS K h v) c:=by
 have key:∀{cs:List AV} {c:Array Value} (ih:∀(i:Nat) v,cs[i]? =some v->(∀k,k∈v.refs->k∈K∨∀b n,(b,n)∈β k->¬D' b)->yB w D' h' β' (qS K h v) (c.getD i undef)) (hr:∀k,k∈jO cs->k∈K∨∀b n,(b,n)∈β k->¬D' b)
   (i:Nat) v,(wT K h cs)[i]? =some v->yB w D' h' β' v (c.getD i undef):=λih hr i v hv=>by
  rw[bX,zYf]at hv;obtain⟨u,hu,rfl⟩:=hv;exact ih i u hu λk hk=>hr k (wU hu hk)
 have efz:∀{v c},xE w (xO X β) v c->xE w D' v c:=λhf=>hf.evo (zX7 _) λb hb hd=>⟨rfl,hD b hb hd⟩
 have cont:∀{k},K.contains k=true↔k∈K:=λ{k}=>by simp
 induction hv with
 | fz v c hf=>
  intro _
  have:xE w D' (qS K h v) c:=by
   have h2:∀{v c},xE w (xO X β) v c->xE w D' (qS K h v) c:=by
    intro v c hf
    induction hf with
    |bot c=>exact .bot c
    |gh n c=>exact .gh n c
    |s v=>exact .s v
    | agg cs c hl h1 _ ih=>
     exact .agg _ c (by rw[kH];exact hl) h1 λi v hv=>by
      rw[bX,zYf]at hv;obtain⟨u,hu,rfl⟩:=hv;exact ih i u hu
    |nil a cap=>exact .nil _ _
    |nil1 a cap=>exact .nil1 _ _
    |sl nn xs b o sz cap f hx hL hc hh _=>exact efz (.sl nn xs b o sz cap f hx hL hc hh)
    |slc cap xs b o sz f hL hc hh _=>exact efz (.slc cap xs b o sz f hL hc hh)
    |fp xs b o sz i off f hL hi ho hh _=>exact efz (.fp xs b o sz i off f hL hi ho hh)
    |fm ob p b x ho hl hd hx hp=>exact efz (.fm ob p b x ho hl hd hx hp)
   exact h2 hf
  exact .fz _ _ this
 |agg cs c hl h1 _ ih=>exact λhr=> .agg _ c (by rw[kH];exact hl) h1 (key ih hr)
 |fn f caps c hl _ ih=>exact λhr=> .fn f _ c (by rw[kH];exact hl) (key ih hr)
 |tup vs c hl _ ih=>exact λhr=> .tup _ c (by rw[kH];exact hl) (key ih hr)
 |dref k off len c hk' h1=>
  intro hr;unfold qS
  cases hc:K.contains k with
  |true=>exact .dref _ _ _ _ (hk k (cont.1 hc) _ hk') h1
  |false=>simp only[hk',zZ6];exact .fz _ _ (.bot _)
 |dptr k i off c hk' h1=>
  intro hr;unfold qS
  cases hc:K.contains k with
  |true=>exact .dptr _ _ _ _ (hk k (cont.1 hc) _ hk') h1
  |false=>exact .fz _ _ (.bot _)
 | ref k off len sz xs st b n cap hk' hb hn hc' hs=>
  intro hr;unfold qS
  cases hc:K.contains k with
  |true=>obtain⟨xs',st',hk2,_⟩:=hk k (cont.1 hc) _ hk';exact .ref k off len sz xs' st' b n cap hk2 (by rw[hβ k (cont.1 hc)];exact hb) hn hc' hs
  | false=>
   simp only[hk',zZ6]
   cases hnest:st.nest with
   |true=>exact .fz _ _ (.bot _)
   |false=>
   simp only[zZ6];have hnK:¬k∈K:=λh=>by rw[cont.2 h]at hc;cases hc
   have hfree:=(hr k (by simp[AV.refs])).resolve_left hnK;obtain⟨g1,g2,g3,g4,g5,f,g6,g7,g8⟩:=H.ent k _ hk'
   have hnx:n<=xs.length:=by
    cases hbk:β k with
    |nil=>rw[hbk]at hb;simp at hb
    |cons q rr=>
     obtain⟨b0,n0⟩:=q;obtain⟨e1,_,e3⟩:=g5 b0 n0 rr hbk;rw[hbk]at hb;simp at hb
     rcases hb with⟨_,rfl⟩|hb
     ·omega
     ·exact yC0 (e3 b n hb)
   have hl:((xs.drop off).take len).length=len:=by simp;omega
   by_cases hz:len=0
   ·subst hz;simp only[yA9];exact .fz _ _ (.nil _ _)
   ·have hat:∀(i:Nat) y,((xs.drop off).take len)[i]? =some y->xs[off+i]? =some y:=λi y hy=>by
     rw[zZi]at hy;split at hy
     ·rwa [zZt]at hy
     ·cases hy
    obtain⟨cc,el,e1,e2,e3,_⟩:=g8 b n hb
    have:=xE.sl (w:=w) (D:=D') false ((xs.drop off).take len) b (off*sz) sz cap (λi j=>f (off+i) j) (λh0=>hz (by rw[<-hl,h0];rfl))
     ⟨H.lt b (.inr ⟨k,n,hb⟩),hfree b n hb,g1,by rw[hl];omega,λi y hy=>g4 _ y (hat i y hy),λi j hi hj=>by
      rw[hl]at hi;rw[uX e1,show off*sz+i*sz+j=(off+i)*sz+j by rw[zY8]]
      exact e3 _ _ (by omega) hj,λi j hi hj=>g7 _ _ zDa hj⟩ (by rw[hl];exact hc') (λi y j v hy hv=>efz (g6.toF hnest _ y j v (hat i y hy) hv))
    rw[hl]at this;exact .fz _ _ this
 | ref0 k off sz xs st a hk' hn=>
  intro hr;unfold qS
  cases hc:K.contains k with
  |true=>obtain⟨xs',st',hk2,hl2⟩:=hk k (cont.1 hc) _ hk';exact .ref0 k off sz xs' st' a hk2 (hl2▸hn)
  |false=>
   simp only[hk',zZ6,yA9]
   cases st.nest with
   |true=>exact .fz _ _ (.bot _)
   |false=>exact .fz _ _ (.nil _ _)
 | pbox k off cs b n hk' hb=>
  intro hr;unfold qS
  cases hc:K.contains k with
  |true=>
   obtain⟨cs',h2⟩:=hk k (cont.1 hc) _ hk';exact .pbox k off cs' b n h2 (by rw[hβ k (cont.1 hc)];exact hb)
  |false=>exact .fz _ _ (.bot _)
 |parr k i off sz xs st b n hk' hb hi ho=>
  intro hr;unfold qS
  cases hc:K.contains k with
  |true=>obtain⟨xs',st',hk2,_⟩:=hk k (cont.1 hc) _ hk';exact .parr k i off sz xs' st' b n hk2 (by rw[hβ k (cont.1 hc)];exact hb) hi ho
  |false=>exact .fz _ _ (.bot _)
theorem yB.frz {w:World} {X:Nat->Prop} {h:yJ} {β:uW} (H:jK X h β w) {K:List Nat} {h':yJ} {β':uW} {D':Nat->Prop}
  (hk:∀k,k∈K->∀e,h k=some e->match e with| .box _=>∃cs',h' k=some (.box cs')| .obj _=>∃cs',h' k=some (.obj cs')| .arr sz xs _=>∃xs' st',h' k=some (.arr sz xs' st')/\xs.length=xs'.length| .dead=>h' k=some .dead) (hβ:∀k,k∈K->β' k=β k) (hD:∀b,b<w.heap.size->¬xO X β b->¬D' b) (hfr:∀k,¬k∈K->∀b n,(b,n)∈β k->¬D' b)
  {v:AV} {c:Value} (hv:yB w (xO X β) h β v c):yB w D' h' β' (wQ K h v) c:=by
 have key:∀{cs:List AV} {c:Array Value} (ih:∀(i:Nat) v,cs[i]? =some v->yB w D' h' β' (wQ K h v) (c.getD i undef))
   (i:Nat) v,(qN K h cs)[i]? =some v->yB w D' h' β' v (c.getD i undef):=λih i v hv=>by
  rw[aQ,zYf]at hv;obtain⟨u,hu,rfl⟩:=hv;exact ih i u hu
 have efz:∀{v c},xE w (xO X β) v c->xE w D' v c:=λhf=>hf.evo (zX7 _) λb hb hd=>⟨rfl,hD b hb hd⟩
 have cont:∀{k},K.contains k=true↔k∈K:=λ{k}=>by simp
 induction hv with
 | fz v c hf=>
  have:xE w D' (wQ K h v) c:=by
   have h2:∀{v c},xE w (xO X β) v c->xE w D' (wQ K h v) c:=by
    intro v c hf
    induction hf with
    |bot c=>exact .bot c
    |gh n c=>exact .gh n c
    |s v=>exact .s v
    | agg cs c hl h1 _ ih=>
     exact .agg _ c (by rw[uH];exact hl) h1 λi v hv=>by
      rw[aQ,zYf]at hv;obtain⟨u,hu,rfl⟩:=hv;exact ih i u hu
    |nil a cap=>exact .nil _ _
    |nil1 a cap=>exact .nil1 _ _
    |sl nn xs b o sz cap f hx hL hc hh _=>exact efz (.sl nn xs b o sz cap f hx hL hc hh)
    |slc cap xs b o sz f hL hc hh _=>exact efz (.slc cap xs b o sz f hL hc hh)
    |fp xs b o sz i off f hL hi ho hh _=>exact efz (.fp xs b o sz i off f hL hi ho hh)
    |fm ob p b x ho hl hd hx hp=>exact efz (.fm ob p b x ho hl hd hx hp)
   exact h2 hf
  exact .fz _ _ this
 |agg cs c hl h1 _ ih=>exact .agg _ c (by rw[uH];exact hl) h1 (key ih)
 |fn f caps c hl _ ih=>exact .fn f _ c (by rw[uH];exact hl) (key ih)
 |tup vs c hl _ ih=>exact .tup _ c (by rw[uH];exact hl) (key ih)
 |dref k off len c hk' h1=>
  unfold wQ
  cases hc:K.contains k with
  |true=>exact .dref _ _ _ _ (hk k (cont.1 hc) _ hk') h1
  |false=>simp only[hk',zZ6];exact .fz _ _ (.bot _)
 |dptr k i off c hk' h1=>
  unfold wQ
  cases hc:K.contains k with
  |true=>exact .dptr _ _ _ _ (hk k (cont.1 hc) _ hk') h1
  |false=>exact .fz _ _ (.bot _)
 | ref k off len sz xs st b n cap hk' hb hn hc' hs=>
  unfold wQ
  cases hc:K.contains k with
  |true=>obtain⟨xs',st',hk2,_⟩:=hk k (cont.1 hc) _ hk';exact .ref k off len sz xs' st' b n cap hk2 (by rw[hβ k (cont.1 hc)];exact hb) hn hc' hs
  | false=>
   simp only[hk',zZ6];have hnK:¬k∈K:=λh=>by rw[cont.2 h]at hc;cases hc
   have hfree:=hfr k hnK;obtain⟨g1,g2,g3,g4,g5,f,g6,g7,g8⟩:=H.ent k _ hk'
   have hnx:n<=xs.length:=by
    cases hbk:β k with
    |nil=>rw[hbk]at hb;simp at hb
    |cons q rr=>
     obtain⟨b0,n0⟩:=q;obtain⟨e1,_,e3⟩:=g5 b0 n0 rr hbk;rw[hbk]at hb;simp at hb
     rcases hb with⟨_,rfl⟩|hb
     ·omega
     ·exact yC0 (e3 b n hb)
   cases hnest:st.nest with
   | true=>
    simp only[zZo]
    cases hnk:wF (wT K h xs)with
    |false=>exact .fz _ _ (.bot _)
    |true=>
    simp only[zZo];have hl0:(wT K h xs).length=xs.length:=kH K h xs;have hl:(((wT K h xs).drop off).take len).length=len:=by simp[hl0];omega
    by_cases hz:len=0
    ·subst hz;simp only[yA9];exact .fz _ _ (.nil _ _)
    have hat:∀(i:Nat) y,(((wT K h xs).drop off).take len)[i]? =some y->∃x,xs[off+i]? =some x/\y=qS K h x:=λi y hy=>by
     rw[zZi]at hy;split at hy
     ·rw[zZt,bX,zYf]at hy;obtain⟨x,hx,rfl⟩:=hy;exact⟨x,hx,rfl⟩
     ·cases hy
    obtain⟨cc,el,e1,e2,e3,_⟩:=g8 b n hb
    have:=xE.sl (w:=w) (D:=D') false (((wT K h xs).drop off).take len) b (off*sz) sz cap (λi j=>f (off+i) j) (λh0=>hz (by rw[<-hl,h0];rfl))
     ⟨H.lt b (.inr ⟨k,n,hb⟩),hfree b n hb,g1,by rw[hl];omega,λi y hy=>by
      obtain⟨x,hx,rfl⟩:=hat i y hy;rw[OQ,kH]
      exact g4 _ x hx,λi j hi hj=>by
      rw[hl]at hi;rw[uX e1,show off*sz+i*sz+j=(off+i)*sz+j by rw[zY8]]
      exact e3 _ _ (by omega) hj,λi j hi hj=>g7 _ _ zDa hj⟩ (by rw[hl];exact hc') (λi y j v hy hv=>by
      obtain⟨x,hx,rfl⟩:=hat i y hy;have hyk:(qS K h x).nokey=true:=jL hnk (show(wT K h xs)[off+i]? =some (qS K h x) by rw[bX,hx];rfl);have hvk:v.nokey=true:=jL (RY hyk) hv;rw[OQ,bX,zYf]at hv;obtain⟨u,hu,rfl⟩:=hv
      exact(yB.fz0 H hk hβ hD (g6.toV _ x j u hx hu) λk' _=>by
       by_cases hk2:k'∈K
       ·exact .inl hk2
       ·exact .inr (hfr k' hk2)).toF hvk)
    rw[hl]at this;exact .fz _ _ this
   |false=>
   simp only[zZ6];have hl:((xs.drop off).take len).length=len:=by simp;omega
   by_cases hz:len=0
   ·subst hz;simp only[yA9];exact .fz _ _ (.nil _ _)
   ·have hat:∀(i:Nat) y,((xs.drop off).take len)[i]? =some y->xs[off+i]? =some y:=λi y hy=>by
     rw[zZi]at hy;split at hy
     ·rwa [zZt]at hy
     ·cases hy
    obtain⟨cc,el,e1,e2,e3,_⟩:=g8 b n hb
    have:=xE.sl (w:=w) (D:=D') false ((xs.drop off).take len) b (off*sz) sz cap (λi j=>f (off+i) j) (λh0=>hz (by rw[<-hl,h0];rfl))
     ⟨H.lt b (.inr ⟨k,n,hb⟩),hfree b n hb,g1,by rw[hl];omega,λi y hy=>g4 _ y (hat i y hy),λi j hi hj=>by
      rw[hl]at hi;rw[uX e1,show off*sz+i*sz+j=(off+i)*sz+j by rw[zY8]]
      exact e3 _ _ (by omega) hj,λi j hi hj=>g7 _ _ zDa hj⟩ (by rw[hl];exact hc') (λi y j v hy hv=>efz (g6.toF hnest _ y j v (hat i y hy) hv))
    rw[hl]at this;exact .fz _ _ this
 | ref0 k off sz xs st a hk' hn=>
  unfold wQ
  cases hc:K.contains k with
  |true=>obtain⟨xs',st',hk2,hl2⟩:=hk k (cont.1 hc) _ hk';exact .ref0 k off sz xs' st' a hk2 (hl2▸hn)
  | false=>
   simp only[hk',zZ6,yA9]
   cases st.nest with
   |true=>
    simp only[zZo]
    cases wF (wT K h xs)with
    |true=>exact .fz _ _ (.nil _ _)
    |false=>exact .fz _ _ (.bot _)
   |false=>exact .fz _ _ (.nil _ _)
 | pbox k off cs b n hk' hb=>
  unfold wQ
  cases hc:K.contains k with
  |true=>
   obtain⟨cs',h2⟩:=hk k (cont.1 hc) _ hk';exact .pbox k off cs' b n h2 (by rw[hβ k (cont.1 hc)];exact hb)
  |false=>exact .fz _ _ (.bot _)
 |parr k i off sz xs st b n hk' hb hi ho=>
  unfold wQ
  cases hc:K.contains k with
  |true=>obtain⟨xs',st',hk2,_⟩:=hk k (cont.1 hc) _ hk';exact .parr k i off sz xs' st' b n hk2 (by rw[hβ k (cont.1 hc)];exact hb) hi ho
  |false=>exact .fz _ _ (.bot _)
def kI (K:List Nat) (h:yJ):xN->xN
 | .box cs=> .box (qN K h cs)
 | .obj cs=> .obj cs
 | .arr sz xs fl=>bif fl.nest then .arr sz (qN K h xs) ⟨fl.stale,!wF (qN K h xs)⟩else .arr sz xs fl
 | .dead=> .dead
def gT (K:List Nat) (h:yJ) (sz:Nat) (xs:List AV) (fl:Fl):∃xs' fl',kI K h (.arr sz xs fl)= .arr sz xs' fl'/\xs'.length=xs.length:=by
 cases hn:fl.nest with
 |true=>exact⟨_,_,by simp only[kI,hn,zZo];rfl,uH K h xs⟩
 |false=>exact⟨_,_,by simp only[kI,hn,zZ6];rfl,rfl⟩
def IH {K:List Nat} {h:yJ} {v:AV} {i:Nat} (hv:wQ K h v= .gh i):v= .gh i:=by
 cases v<;>first
  |exact hv
  |(simp[wQ]at hv;done)
  |skip
 ·exfalso;rename_i k _ _;unfold wQ at hv
  cases hc:K.contains k<;>rw[hc]at hv
  ·simp only[zZ6]at hv;split at hv
   ·rename_i fl _
    cases hn:Fl.nest fl<;>rw[hn]at hv
    ·cases hv
    ·simp only[zZo]at hv;generalize wF _=q at hv
     cases q<;>cases hv
   ·cases hv
  ·cases hv
 ·exfalso;rename_i k _ _;unfold wQ at hv
  cases hc:K.contains k<;>rw[hc]at hv<;>cases hv
def vD (K:List Nat) (h:yJ):List (Nat×xN)
 :=K.filterMap λk=>(h k).map λe=>(k,kI K h e)
def restr (K ts:List Nat) (st:St):St:=⟨ts.map λt=>(t,wQ K (zC st.h) (zG st.tm t)),vD K (zC st.h)⟩
def xZ (K:List Nat) (h:yJ) (k:Nat):zC (vD K h) k=if k∈K then(h k).map (kI K h)else none:=by
 unfold vD;generalize kI K h=g
 induction K with
 |nil=>rfl
 | cons j K ih=>
  rw[List.filterMap_cons]
  cases hj:h j with
  |none=>
   simp only[yBb,ih,zZg];by_cases hkj:k=j
   ·subst hkj;simp[hj]
   ·simp[hkj]
  |some e=>
   simp only[Option.map_some,xG,ih,zZg];by_cases hkj:k=j
   ·subst hkj;simp[hj]
   ·simp[hkj]
def gB (K ts:List Nat) (st:St) (t:Nat):zG (restr K ts st).tm t=if t∈ts then wQ K (zC st.h) (zG st.tm t)else .bot:=by
 unfold restr;dsimp only;generalize wQ K (zC st.h)=g
 induction ts with
 |nil=>rfl
 |cons j ts ih=>
  simp only[zZj,yP,ih,zZg];by_cases htj:t=j
  ·subst htj;simp
  ·simp[htj]
theorem jK.restr {X:Nat->Prop} {h:yJ} {β:uW} {w:World} (H:jK X h β w) (K:List Nat):
  jK X (zC (vD K h)) (λk=>if k∈K then β k else []) w/\∀v c,yB w (xO X β) h β v c->yB w (xO X λk=>if k∈K then β k else []) (zC (vD K h)) (λk=>if k∈K then β k else []) (wQ K h v) c:=by
 have hsub:∀b,xO X (λk=>if k∈K then β k else []) b->xO X β b:=λb hd=>by
  rcases hd with hx|⟨k,n,hm⟩
  ·exact .inl hx
  ·(try dsimp only at hm)
   split at hm
   ·exact .inr ⟨k,n,hm⟩
   ·simp at hm
 have hv:∀v c,yB w (xO X β) h β v c->yB w (xO X λk=>if k∈K then β k else []) (zC (vD K h)) (λk=>if k∈K then β k else []) (wQ K h v) c:=λv c hv=>by
  refine yB.frz H (K:=K) (λk hk e he=>?_) (λk hk=>by simp[hk]) (λb _ hd h'=>hd (hsub b h')) (λk hk b n hm=>?_) hv
  ·rw[xZ,zX3 hk,he]
   cases e with
   |box cs=>exact⟨_,rfl⟩
   |obj cs=>exact⟨_,rfl⟩
   |arr sz xs fl=>
    cases hn:fl.nest with
    |true=>exact⟨_,_,by simp only[Option.map_some,kI,hn,zZo];rfl,(uH K h xs).symm⟩
    |false=>exact⟨_,_,by simp only[Option.map_some,kI,hn,zZ6];rfl,rfl⟩
   |dead=>rfl
  ·rintro(hx|⟨k',n',hm'⟩)
   ·exact H.free k b n hm hx
   ·(try dsimp only at hm')
    split at hm'
    ·rename_i hk';exact hk (H.disj k k' b n n' hm hm'▸hk')
    ·simp at hm'
 have ef:∀{v c},xE w (xO X β) v c->xE w (xO X λk=>if k∈K then β k else []) v c:=λhf=>hf.evo (zX7 _) λb _ hd=>⟨rfl,λh'=>hd (hsub b h')⟩
 refine⟨⟨λk e he=>?_,λk he=>?_,λk k' b n n' h1 h2=>?_,λk b n hm=>?_,λb hd=>H.lt b (hsub b hd)⟩,hv⟩
 ·rw [xZ]at he;split at he
  ·rename_i hk;rw[zYf]at he;obtain⟨e0,he0,rfl⟩:=he;have:=H.ent k e0 he0
   cases e0 with
   |dead=>show(if k∈K then β k else [])=[];rw[zX3 hk];exact this
   |box cs=>
    obtain⟨b,c,el,h1,h2,h3,h4,h5⟩:=this;refine⟨b,c,el,by(try dsimp only);rw[zX3 hk];exact h1,h2,by rw[uH];exact h3,h4,λi v hi=>?_⟩;rw[aQ,zYf]at hi;obtain⟨u,hu,rfl⟩:=hi;exact hv u _ (h5 i u hu)
   |obj cs=>
    exact⟨by(try dsimp only);rw[zX3 hk];exact this.1,this.2⟩
   | arr sz xs st=>
    obtain⟨g1,g2,g3,g4,g5,f,g6,g7,g8⟩:=this
    cases hn:st.nest with
    |false=>
     simp only[kI,hn,zZ6];exact⟨g1,g2,by(try dsimp only);rw[zX3 hk];exact g3,g4,by(try dsimp only);rw[zX3 hk];exact g5,f,.ofF λi x j v hx hy=>ef (g6.toF hn i x j v hx hy),g7,by(try dsimp only);rw[zX3 hk];exact g8⟩
    | true=>
     simp only[kI,hn,zZo];have hl:=uH K h xs
     have hat:∀(i:Nat) y,(qN K h xs)[i]? =some y->∃x,xs[i]? =some x/\y=wQ K h x:=λi y hy=>by
      rw[aQ,zYf]at hy;obtain⟨x,hx,rfl⟩:=hy;exact⟨x,hx,rfl⟩
     refine⟨g1,by rw[hl];exact g2,λh0=>by(try dsimp only);rw[zX3 hk];exact g3 (λh1=>h0 (by rw[h1];rfl)),λi y hy=>?_,by(try dsimp only);rw[zX3 hk,hl];exact g5,f,λi y j v hy hv2=>?_,by rw[hl];exact g7,by(try dsimp only);rw[zX3 hk];exact g8⟩
     ·obtain⟨x,hx,rfl⟩:=hat i y hy;rw[OR,uH];exact g4 i x hx
     ·obtain⟨x,hx,rfl⟩:=hat i y hy
      have hR:yB w (xO X λk=>if k∈K then β k else []) (zC (vD K h)) (λk=>if k∈K then β k else []) v (f i j):=by
       rw[OR,aQ,zYf]at hv2;obtain⟨u,hu,rfl⟩:=hv2;exact hv u _ (g6.toV i x j u hx hu)
      exact⟨hR,λh0=>hR.toF (jL (RY (jL (by simpa using h0) hy)) hv2)⟩
  ·cases he
 ·(try dsimp only)
  split
  ·rename_i hk;rw[xZ,zX3 hk]at he
   cases hk':h k with
   |none=>exact H.off k hk'
   |some e=>simp[hk']at he
  ·rfl
 ·(try dsimp only at h1 h2)
  split at h1<;>split at h2
  ·exact H.disj _ _ _ _ _ h1 h2
  ·simp at h2
  ·simp at h1
  ·simp at h1
 ·(try dsimp only at hm)
  split at hm
  ·exact H.free k b n hm
  ·simp at hm
theorem wN.restrM {K0:List Nat} {F:Fr K0} {m:Nat} {st:St} {a:Act} {w:World} (R:wN F m st a w) (K ts:List Nat) (hK:K0.all (K.contains ·)=true) {tm':Nat->AV} (hg:tm' GS=zG (restr K ts st).tm GS)
  (ht:∀t,tm' t=zG (restr K ts st).tm t∨∃k b p,zC st.h k=some (.obj (b,p))/\¬k∈K/\zG st.tm t= .s (.map (some b))/\tm' t= .fm none p):VD F m tm' (zC (restr K ts st).h) a w:=by
 obtain⟨⟨X,β,hX,H,Ht,KK,hJ,hD⟩,nd,gs,hl⟩:=R;obtain⟨H',hv⟩:=H.restr K;refine⟨⟨X,_,hX,H',λt=>?_,⟨λk e he=>?_,KK.size,KK.keep,λk b n hm=>?_,λk b n hm=>?_,KK.bs,KK.os,KK.tape,KK.output⟩,λi hi=>?_,hD⟩,λk=>?_,gs,hl⟩
 ·rcases ht t with e|⟨k,b,p,h1,h2,h3,h4⟩
  ·rw[e,gB];split
   ·exact hv _ _ (Ht t)
   ·exact .fz _ _ (.bot _)
  ·obtain⟨g1,x,g2,g3⟩:=H.ent k _ h1;have hc:=Ht t;rw[h3]at hc;rw[h4]
   have e:a.eval (.tmp t)= .map (some b):=by
    generalize a.eval (.tmp t)=c at hc
    cases hc with
    |fz _ _ hf=>cases hf;rfl
   rw[e];have hm:(b,0)∈β k:=by rw[g1];exact zZd.2 Z
   refine .fz _ _ (.fm none p b x (λn h=>by cases h) (H.lt b (.inr ⟨k,0,hm⟩)) (λhd=>?_) g2 g3)
   rcases hd with hx|⟨j,n,hj⟩
   ·exact H.free k b 0 hm hx
   ·(try dsimp only at hj)
    split at hj
    ·rename_i hjK;rw[<-H.disj k j b 0 n hm hj]at hjK;exact h2 hjK
    ·simp at hj
 ·have hk:k∈K:=by
   have:=zYi.1 hK k (F.hh k e he);simpa using this
  have h1:=KK.knd k e he;have hr:∀e',zC st.h k=some e'->zC (vD K (zC st.h)) k=some (kI K (zC st.h) e'):=λe' h2=>by rw[xZ,zX3 hk,h2];rfl
  cases e with
  |dead=>exact h1
  |box cs=>obtain⟨cs',h2⟩:=h1;exact⟨_,hr _ h2⟩
  |obj cs=>obtain⟨cs',h2⟩:=h1;exact⟨_,hr _ h2⟩
  |arr sz xs sl=>obtain⟨xs',sl',h2,h3⟩:=h1;obtain⟨xs2,fl2,h4,h5⟩:=gT K (zC st.h) sz xs' sl';exact⟨xs2,fl2,(hr _ h2).trans (by rw[h4]),by rw[h5];exact h3⟩
 ·(try dsimp only at hm)
  split at hm
  ·exact KK.own k b n hm
  ·simp at hm
 ·have hk:k∈K:=by
   have:=zYi.1 hK k (F.hK k b n hm);simpa using this
  (try dsimp only)
  rw[zX3 hk];exact KK.pas k b n hm
 ·rw[hg,gB]at hi;split at hi
  ·have h1:zG st.tm GS= .gh i:=IH hi;refine F.Jst i _ X w w _ (hJ i h1) (zX7 _) (λ_ _ _=>rfl) (λb hb=>?_) (λb hb=>?_) Z Z Z
   ·obtain⟨k,n,hm⟩:=hb
    (try dsimp only at hm)
    split at hm
    ·exact .inl ⟨k,n,hm⟩
    ·simp at hm
   ·obtain⟨k,n,hm⟩:=hb;exact H'.lt b (.inr ⟨k,n,hm⟩)
  ·cases hi
 ·show zC (vD K (zC st.h)) k≠some .dead
  rw[xZ];split
  ·intro h;rw[zYf]at h;obtain⟨e,he,h2⟩:=h
   cases e with
   |dead=>exact nd k he
   |box cs=>cases h2
   |obj cs=>cases h2
   |arr a b c=>obtain⟨xs2,fl2,h4,_⟩:=gT K (zC st.h) a b c;rw[h4]at h2;cases h2
  ·intro h;cases h
theorem wN.restr {K0:List Nat} {F:Fr K0} {m:Nat} {st:St} {a:Act} {w:World} (R:wN F m st a w) (K ts:List Nat) (hK:K0.all (K.contains ·)=true):wN F m (restr K ts st) a w:=
 R.restrM K ts hK Z λ_=> .inl Z
def bY (P:Program) (f:Nat):Prop:=∀(args:Array Value) (w:World),(callFunc f args).run P w= .ok (.enter f args) w
def yV (_:List AV) (_:List (Nat×xN)) (_:AV) (_:List (Nat×xN)):Prop:=True
def yI {a:List AV} {h0 h1:List (Nat×xN)} {r:AV}:yV a h0 r h1:=trivial
structure xP (P:Program) (f:Nat) (args:List AV) (h0:List (Nat×xN)) (r:AV) (h1:List (Nat×xN)):Prop where
 able:bY P f
 nd:∀k,zC h1 k≠some .dead
 sim:∀(X:Nat->Prop) (w:World) (β:uW) (cargs:Array Value),cargs.size=args.length->jK X (zC h0) β w->(∀(i:Nat) v,args[i]? =some v->yB w (xO X β) (zC h0) β v (cargs.getD i undef))->
  Calls P f cargs w λe w'=>∃c β',e= .returned c/\xK X w (zC h0) β w' (zC h1) β'/\yB w' (xO X β') (zC h1) β' r c
def xN.nosl:xN->Bool
 | .box cs=>OP cs
 | .obj cs=>true
 | .arr _ xs _=>OP xs
 | .dead=>true
def LW:List (Nat×xN)->Bool
 | []=>true
 |(_,e)::r=>e.nosl&&LW r
theorem DC:∀{h:List (Nat×xN)} {k:Nat} {e:xN},LW h=true->zC h k=some e->e.nosl=true
 | [],k,e,_,he=>by simp[zC]at he
 |(j,e0)::r,k,e,hn,he=>by
  simp[LW]at hn;rw[xG]at he;split at he
  ·cases he;exact hn.1
  ·exact DC hn.2 he
def yS (h:List (Nat×xN)):List Nat:=h.map (·.1)
theorem uL:∀{h:List (Nat×xN)} {k:Nat} {e:xN},zC h k=some e->k∈yS h
 | [],k,e,he=>by simp[zC]at he
 |(j,e0)::r,k,e,he=>by
  rw[xG]at he;split at he
  ·rename_i h;simp[yS,h]
  ·have:=uL he;simp[yS]at this⊢;exact .inr this
theorem bZ:∀{h:List (Nat×xN)} {k:Nat},k∈yS h->∃e,zC h k=some e
 | [],k,hk=>by simp[yS]at hk
 |(j,e0)::r,k,hk=>by
  rw[xG];split
  ·exact⟨_,rfl⟩
  ·rename_i h;simp only[yS,zZj,zZg]at hk;exact bZ (hk.resolve_left h)
theorem cL:∀{h:List (Nat×xN)} {k:Nat} {e:xN},zC h k=some e->∃p∈h,p.2=e
 | [],k,e,he=>by simp[zC]at he
 |(j,e0)::r,k,e,he=>by
  rw[xG]at he;split at he
  ·cases he;exact⟨(j,e0),by simp,rfl⟩
  ·obtain⟨p,hp,h2⟩:=cL he;exact⟨p,by simp[hp],h2⟩
def clE (ks:List Nat):xN->Bool
 | .box cs=>(jO cs).all (ks.contains ·)
 | .obj cs=>true
 | .arr _ xs fl=>bif fl.nest then(jO xs).all (ks.contains ·)else true
 | .dead=>true
def VF {x v:AV} {j:Nat} (h:x.cells[j]? =some v) {k:Nat} (hk:k∈v.refs):k∈x.refs:=by
 cases x<;>first
  |(simp[AV.cells]at h;cases j<;>simp at h;subst h;exact hk)
  |exact wU h hk
def zXq (K:List Nat) (h:yJ) (v:AV):AV:=VE (qS K h v)
def zOp {args:Array Operand} {caps:List AV} {ρ:Operand->Value} {cv:Array Value} (g:Operand->AV) {i:Nat} {v:AV} (hc:cv.size=caps.length) (h:(args.toList.map g++caps)[i]? =some v):
  (∃x,x∈args/\g x=v/\(args.map ρ++cv).getD i undef=ρ x)∨∃j,caps[j]? =some v/\(args.map ρ++cv).getD i undef=cv.getD j undef:=by
 by_cases hi:i<args.size
 ·rw[zY0 LY,zX8,zYf]at h;obtain⟨x,hx,rfl⟩:=h;have hx':args[i]? =some x:=by simpa using hx
  refine .inl ⟨x,Array.mem_of_getElem? hx',rfl,gV ?_⟩;rw[zZ9 LY];simp[hx']
 ·rw[zYt xX]at h;refine .inr ⟨i-args.size,by simpa using h,?_⟩;have hlt:i-args.size<caps.length:=by simpa using (zYu.1 h).1
  apply gV;rw[yB3 xX];simpa using kW cv (i-args.size) (by omega)
section
variable {P:Program} {st:St}
def zJp {X Xc:Nat->Prop} {w':World} {h h':yJ} {β1 β':uW} (hh:∀k e,h k=some e->h' k=some e/\β' k=β1 k) (hD:∀b,xO X β' b->b<w'.heap.size->xO Xc β1 b∨False) {v:AV} {c:Value} (hv:yB w' (xO Xc β1) h β1 v c):yB w' (xO X β') h' β' v c:=by
 have ef:∀{v c},xE w' (xO Xc β1) v c->xE w' (xO X β') v c:=λhf=>hf.evo (zX7 _) λb hb hd=>⟨rfl,λh'=>hd ((hD b h' hb).resolve_right id)⟩
 induction hv with
 |fz v c hf=>exact .fz _ _ (ef hf)
 |agg cs c hl h1 _ ih=>exact .agg cs c hl h1 ih
 |fn f caps c hl _ ih=>exact .fn f caps c hl ih
 |tup vs c hl _ ih=>exact .tup vs c hl ih
 |dref k off len c hk h1=>exact .dref _ _ _ _ (hh k _ hk).1 h1
 |dptr k i off c hk h1=>exact .dptr _ _ _ _ (hh k _ hk).1 h1
 |ref k off len sz xs st b n cap hk hb hn hc hs=>exact .ref k off len sz xs st b n cap (hh k _ hk).1 (by rw[(hh k _ hk).2];exact hb) hn hc hs
 |ref0 k off sz xs st a hk hn=>exact .ref0 k off sz xs st a (hh k _ hk).1 hn
 |pbox k off cs b n hk hb=>exact .pbox k off cs b n (hh k _ hk).1 (by rw[(hh k _ hk).2];exact hb)
 |parr k i off sz xs st b n hk hb hi ho=>exact .parr k i off sz xs st b n (hh k _ hk).1 (by rw[(hh k _ hk).2];exact hb) hi ho
def zEq {X Xc:Nat->Prop} {w':World} {h h':yJ} {β1 β':uW} (hh:∀k e,h k=some e->h' k=some e/\β' k=β1 k) {v:AV} {c:Value} (hv:yB w' (xO Xc β1) h β1 v c):v.nosl=true->yB w' (xO X β') h' β' v c:=by
 induction hv with
 |fz v c hf=>exact λhn=> .fz _ _ (hf.free hn)
 |agg cs c hl h1 _ ih=>exact λhn=> .agg cs c hl h1 λi v hv=>ih i v hv (fX (by simpa [AV.nosl]using hn) hv)
 |fn f caps c hl _ ih=>exact λhn=> .fn f caps c hl λi v hv=>ih i v hv (fX (by simpa [AV.nosl]using hn) hv)
 |tup vs c hl _ ih=>exact λhn=> .tup vs c hl λi v hv=>ih i v hv (fX (by simpa [AV.nosl]using hn) hv)
 |dref k off len c hk h1=>exact λ_=> .dref _ _ _ _ (hh k _ hk).1 h1
 |dptr k i off c hk h1=>exact λ_=> .dptr _ _ _ _ (hh k _ hk).1 h1
 |ref k off len sz xs st b n cap hk hb hn hc hs=>exact λ_=> .ref k off len sz xs st b n cap (hh k _ hk).1 (by rw[(hh k _ hk).2];exact hb) hn hc hs
 |ref0 k off sz xs st a hk hn=>exact λ_=> .ref0 k off sz xs st a (hh k _ hk).1 hn
 |pbox k off cs b n hk hb=>exact λ_=> .pbox k off cs b n (hh k _ hk).1 (by rw[(hh k _ hk).2];exact hb)
 |parr k i off sz xs st b n hk hb hi ho=>exact λ_=> .parr k i off sz xs st b n (hh k _ hk).1 (by rw[(hh k _ hk).2];exact hb) hi ho
theorem TL.lift {w:World} {D D':Nat->Prop} {h h':yJ} {β β':uW} {k:Nat} {e:xN} (hb:β' k=β k) (hv:∀cs,e= .box cs->∀(i:Nat) v c,cs[i]? =some v->yB w D h β v c->yB w D' h' β' v c)
  (hf:∀sz xs st,e= .arr sz xs st->∀(i:Nat) (x:AV) (j:Nat) v c,xs[i]? =some x->x.cells[j]? =some v->(xE w D v c->xE w D' v c)/\(st.nest=true->yB w D h β v c->yB w D' h' β' v c)) (H:TL w D h β k e):TL w D' h' β' k e:=by
 cases e with
 |dead=>exact hb.trans H
 |box cs=>
  obtain⟨b,c,el,h1,h2,h3,h4,h5⟩:=H;exact⟨b,c,el,hb.trans h1,h2,h3,h4,λi v hi=>hv cs Z i v _ hi (h5 i v hi)⟩
 |obj cs=>
  exact⟨hb.trans H.1,H.2⟩
 | arr sz xs st=>
  obtain⟨h1,h2,h3,h4,h5,f,h6,h7,h8⟩:=H
  exact⟨h1,h2,by rwa [hb],h4,by rwa [hb],f,λi x j v hx hv=>by
   obtain⟨q1,q2⟩:=hf sz xs st Z i x j v (f i j) hx hv
   cases hn:st.nest with
   |true=>exact⟨q2 hn (h6.toV i x j v hx hv),λh=>by cases h⟩
   |false=>exact⟨.fz _ _ (q1 (h6.toF hn i x j v hx hv)),λ_=>q1 (h6.toF hn i x j v hx hv)⟩,h7,by rwa [hb]⟩
theorem jI {f:Nat} {x:Operand} {args:Array Operand} {ats:Array Nat} {caps as':List AV} {h0 h1:List (Nat×xN)} {r:AV} (hc:xP P f as' h0 r h1) (hx:yM (zG st.tm) x= .fn f caps)
  (has:(args.toList.map (yM (zG st.tm))++caps).map (qS (yS h0) (zC st.h))=as') (hh0:(yS h0).map (zC st.h)=(yS h0).map (zC h0)) (hcl:h0.all (λp=>clE (yS h0) p.2)=true)
  (hnb:((jO (args.toList.map (yM (zG st.tm))++caps)).all ((yS h0).contains ·)||(r.nosl&&LW h1))=true):
  wV P st (.call ⟨.value x,args,ats⟩) r h1 (yS h0++jO (args.toList.map (yM (zG st.tm))++caps)) ((yS h1).filter λk=>!(yS h0).contains k):=by
 refine⟨?_⟩;intro X tm h hg hr hn o a w β ho HH Ht;obtain⟨d0,o0,y0,p0,f0,g0⟩:=o;dsimp only at ho;subst ho;have hfv:=gU Ht hg (x:=x) kJ hx
 obtain⟨cv,hfx,hcvl,hcv⟩:∃cv:Array Value,a.eval x= .func (.func f) #[] cv/\cv.size=caps.length/\∀(i:Nat) v,caps[i]? =some v->yB w (xO X β) h β v (cv.getD i undef):=by
  generalize a.eval x=cx at hfv
  cases hfv with
  |fz _ _ hf=>cases hf
  |fn _ _ c hl hh=>exact⟨c,rfl,hl,hh⟩
 have hrun:(execOp a.eval ⟨d0,.call ⟨.value x,args,ats⟩,y0,p0,f0,g0⟩).run P w= .ok (.enter f (args.map a.eval++cv)) w:=by
  have hab:=hc.able (args.map a.eval++cv) w;simp[execOp,resolve,hfx,Deferred.ofValue,invoke,hab]
 rw[hrun]
 have hK:∀k,k∈yS h0->h k=zC h0 k:=λk hk=>by
  rw[hr k (by simp[hk])];obtain⟨i,hi⟩:=yBx hk;have:=zY3 (·[i]?) hh0;simpa [hi]using this
 have hoff0:∀k,zC h0 k=none->¬k∈yS h0:=λk hk hm=>by
  obtain⟨e,he⟩:=bZ hm;rw[hk]at he;cases he
 let βc:uW:=λk=>if k∈yS h0 then β k else []
 have hβc:∀k,k∈yS h0->βc k=β k:=λk hk=>by simp[βc,hk]
 have hβn:∀k,¬k∈yS h0->βc k=[]:=λk hk=>by simp[βc,hk]
 have hβm:∀k b n,(b,n)∈βc k->k∈yS h0/\(b,n)∈β k:=λk b n hm=>by
  by_cases hk:k∈yS h0
  ·rw[hβc k hk]at hm;exact⟨hk,hm⟩
  ·rw[hβn k hk]at hm;simp at hm
 let lent:Bool:=!(jO (args.toList.map (yM (zG st.tm))++caps)).all ((yS h0).contains ·)
 let Xc:Nat->Prop:=λb=>X b∨(lent=false/\∃k n,¬k∈yS h0/\(b,n)∈β k)
 have hDc:∀b,xO Xc βc b->xO X β b:=λb hd=>by
  rcases hd with(hx|⟨_,k,n,_,hm⟩)|⟨k,n,hm⟩
  ·exact .inl hx
  ·exact .inr ⟨k,n,hm⟩
  ·exact .inr ⟨k,n,(hβm k b n hm).2⟩
 have hclosed:∀k e,zC h0 k=some e->clE (yS h0) e=true:=λk e hk=>by
  obtain⟨p,hp,he⟩:=cL hk;have:=zYi.1 hcl p hp;rw[he]at this;exact this
 have hfrz:∀{v c},yB w (xO X β) h β v c->(∀k,k∈v.refs->k∈yS h0∨∀b n,(b,n)∈β k->¬xO Xc βc b)->yB w (xO Xc βc) (zC h0) βc (qS (yS h0) h v) c:=λhv hrf=>
  yB.fz0 HH (λk hk e he=>by
   rw[hK k hk]at he
   cases e with
   |box cs=>exact⟨cs,he⟩
   |obj cs=>exact⟨cs,he⟩
   |arr sz xs fl=>exact⟨xs,fl,he,rfl⟩
   |dead=>exact he) hβc (λb _ hd h'=>hd (hDc b h')) hv hrf
 have hclv:∀{v c},yB w (xO X β) h β v c->(∀k,k∈v.refs->k∈yS h0)->yB w (xO Xc βc) (zC h0) βc v c:=by
  intro v c hv;have ef:∀{v c},xE w (xO X β) v c->xE w (xO Xc βc) v c:=λhf=>hf.evo (zX7 _) λb _ hd=>⟨rfl,λh'=>hd (hDc b h')⟩
  induction hv with
  |fz v c hf=>exact λ_=> .fz _ _ (ef hf)
  |agg cs c hl h1 _ ih=>exact λhr=> .agg cs c hl h1 λi v hv=>ih i v hv λk hk=>hr k (by simpa [AV.refs]using wU hv hk)
  |fn f caps c hl _ ih=>exact λhr=> .fn f caps c hl λi v hv=>ih i v hv λk hk=>hr k (by simpa [AV.refs]using wU hv hk)
  |tup vs c hl _ ih=>exact λhr=> .tup vs c hl λi v hv=>ih i v hv λk hk=>hr k (by simpa [AV.refs]using wU hv hk)
  |dref k off len c hk h1=>exact λhr=> .dref _ _ _ _ ((hK k (hr k (by simp[AV.refs])))▸hk) h1
  |dptr k i off c hk h1=>exact λhr=> .dptr _ _ _ _ ((hK k (hr k (by simp[AV.refs])))▸hk) h1
  |ref k off len sz xs st b n cap hk hb hn hc hs=>exact λhr=> .ref k off len sz xs st b n cap ((hK k (hr k (by simp[AV.refs])))▸hk) (by rw[hβc k (hr k (by simp[AV.refs]))];exact hb) hn hc hs
  |ref0 k off sz xs st a hk hn=>exact λhr=> .ref0 k off sz xs st a ((hK k (hr k (by simp[AV.refs])))▸hk) hn
  |pbox k off cs b n hk hb=>exact λhr=> .pbox k off cs b n ((hK k (hr k (by simp[AV.refs])))▸hk) (by rw[hβc k (hr k (by simp[AV.refs]))];exact hb)
  |parr k i off sz xs st b n hk hb hi ho=>exact λhr=> .parr k i off sz xs st b n ((hK k (hr k (by simp[AV.refs])))▸hk) (by rw[hβc k (hr k (by simp[AV.refs]))];exact hb) hi ho
 have Hc:jK Xc (zC h0) βc w:=by
  refine⟨λk e he=>?_,λk he=>hβn k (hoff0 k he),λk k' b n n' q1 q2=>HH.disj _ _ _ _ _ (hβm _ _ _ q1).2 (hβm _ _ _ q2).2,λk b n hm hx=>?_,λb hd=>HH.lt b (hDc b hd)⟩
  ·have hk:=uL he
   refine(HH.ent k e ((hK k hk).trans he)).lift (hβc k hk) (λcs hcs i v c hi hv=>hclv hv λj hj=>by
    have:=hclosed k e he;rw[hcs]at this
    simpa using zYi.1 this j (wU hi hj)) λsz xs fl hxs i x j v c hi hj=>⟨λhf=>hf.evo (zX7 _) λb _ hd=>⟨rfl,λh'=>hd (hDc b h')⟩,λhn hv=>hclv hv λq hq=>by
    have:=hclosed k e he;rw[hxs]at this;simp only[clE,hn,zZo]at this
    simpa using zYi.1 this q (wU hi (VF hj hq))⟩
  ·obtain⟨hk,hm⟩:=hβm k b n hm
   rcases hx with hx|⟨_,k',n',hk',hm'⟩
   ·exact HH.free k b n hm hx
   ·exact hk' (HH.disj k k' b n n' hm hm'▸hk)
 have hargs:∀(i:Nat) v,(args.toList.map (yM (zG st.tm))++caps)[i]? =some v->yB w (xO X β) h β v ((args.map a.eval++cv).getD i undef):=λi v hi=>by
  rcases zOp (ρ:=a.eval) (yM (zG st.tm)) hcvl hi with⟨y,hy,rfl,he⟩|⟨j,hj,he⟩
  ·rw[he]
   exact gU Ht hg (by
    simp only[Op.operands,Call.operands,Array.mem_append]
    exact .inr hy) Z
  ·rw[he];exact hcv j v hj
 have hrefs:∀(i:Nat) v,(args.toList.map (yM (zG st.tm))++caps)[i]? =some v->∀k,k∈v.refs->k∈yS h0∨∀b n,(b,n)∈β k->¬xO Xc βc b:=λi v hi k hk=>by
  by_cases hk0:k∈yS h0
  ·exact .inl hk0
  ·refine .inr λb n hm hd=>?_
   have hlent:lent=true:=by
    cases hl:lent with
    |true=>rfl
    |false=>
     simp only[lent,Bool.not_eq_false']at hl;have:=zYi.1 hl k (wU hi hk);exact absurd zC9 hk0
   rcases hd with(hx|⟨hf,_⟩)|⟨k',n',hm'⟩
   ·exact HH.free k b n hm hx
   ·rw[hlent]at hf;cases hf
   ·obtain⟨q1,q2⟩:=hβm k' b n' hm';exact hk0 (HH.disj k k' b n n' hm q2▸q1)
 have hfreq:∀(i:Nat) v,(args.toList.map (yM (zG st.tm))++caps)[i]? =some v->qS (yS h0) (zC st.h) v=qS (yS h0) h v:=by
  have main:∀v:AV,(∀k,k∈v.refs->h k=zC st.h k)->qS (yS h0) (zC st.h) v=qS (yS h0) h v:=by
   intro v
   refine AV.rec (motive_1:=λv=>(∀k,k∈v.refs->h k=zC st.h k)->qS (yS h0) (zC st.h) v=qS (yS h0) h v)
    (motive_2:=λcs=>(∀k,k∈jO cs->h k=zC st.h k)->wT (yS h0) (zC st.h) cs=wT (yS h0) h cs) ?_ ?_ ?_ ?_ ?_ ?_ ?_ ?_ ?_ ?_ ?_ ?_ ?_ ?_ v
   ·exact λ_=>rfl
   ·exact λ_ _=>rfl
   ·exact λ_ _=>rfl
   ·exact λcs ih hk=>by simp only[qS];rw[ih (by simpa [AV.refs]using hk)]
   ·exact λ_ _ _ _=>rfl
   ·exact λ_ _ _ _=>rfl
   ·exact λk off len hk=>by simp only[qS];rw[hk k (by simp[AV.refs])]
   ·exact λ_ _ _ _=>rfl
   ·exact λ_ _ _ _ _=>rfl
   ·exact λf cs ih hk=>by simp only[qS];rw[ih (by simpa [AV.refs]using hk)]
   ·exact λcs ih hk=>by simp only[qS];rw[ih (by simpa [AV.refs]using hk)]
   ·exact λ_ _ _=>rfl
   ·exact λ_=>rfl
   ·exact λv r ihv ihr hk=>by
     simp only[wT];rw[ihv λk h=>hk k (by simp[jO,h]),ihr λk h=>hk k (by simp[jO,h])]
  exact λi v hi=>main v λk hk=>hr k (by simp[wU hi hk])
 have hsim:=hc.sim Xc w βc (args.map a.eval++cv) (by rw[<-has];simp[hcvl]) Hc (λi v hi=>by
  rw[<-has,zX8,zYf]at hi;obtain⟨u,hu,rfl⟩:=hi;rw[hfreq i u hu]
  exact hfrz (hargs i u hu) (hrefs i u hu))
 refine Calls.mono hsim ?_;rintro e w' ⟨c,β1,he,G,hv⟩;refine⟨c,he,?_⟩;have hlive:=G.lives Hc hc.nd
 let β':uW:=λk=>if(zC h1 k).isSome then β1 k else β k
 have hb1:∀k e,zC h1 k=some e->β' k=β1 k:=λk e hk=>by simp[β',hk]
 have hb2:∀k,zC h1 k=none->β' k=β k:=λk hk=>by simp[β',hk]
 have hin:∀k,k∈yS h0->∃e,zC h1 k=some e:=λk hk=>by
  obtain⟨e,he⟩:=bZ hk
  rcases G.key k e he with h2|h2
  ·exact⟨_,h2⟩
  ·cases e with
   |dead=>exact h2.elim
   |box cs=>exact⟨_,h2.1.choose_spec⟩
   |obj cs=>exact⟨_,h2.1.choose_spec⟩
   |arr sz xs st=>obtain⟨xs',st',h3,_⟩:=h2.1;exact⟨_,h3⟩
 have hnew:∀k e,zC h1 k=some e->¬k∈yS h0->h k=none:=λk e hk hk0=>hn k (by
  simp only[yBn,yAn,List.contains_eq_mem,zYj]
  exact⟨uL hk,hk0⟩)
 have ov1:∀k e,zC h1 k=some e->over h1 h k=some e:=λk e hk=>by simp[over,hk]
 have ov2:∀k,zC h1 k=none->over h1 h k=h k:=λk hk=>by simp[over,hk]
 have hβ':∀k b n,(b,n)∈β' k->((∃e,zC h1 k=some e)/\(b,n)∈β1 k)∨(zC h1 k=none/\¬k∈yS h0/\(b,n)∈β k):=λk b n hm=>by
  cases hk:zC h1 k with
  |none=>rw[hb2 k hk]at hm;exact .inr ⟨rfl,(λh2=>by obtain⟨e,he⟩:=hin k h2;rw[hk]at he;cases he),hm⟩
  |some e=>rw[hb1 k e hk]at hm;exact .inl ⟨⟨e,rfl⟩,hm⟩
 have own1:∀k b n,(b,n)∈β1 k->(∃k' n',k'∈yS h0/\(b,n')∈β k')∨w.heap.size<=b:=λk b n hm=>by
  rcases G.own k b n hm with⟨k',n',h2⟩|h2
  ·obtain⟨q1,q2⟩:=hβm k' b n' h2;exact .inl ⟨k',n',q1,q2⟩
  ·exact .inr h2
 have keepK:∀b,b<w.heap.size->(∀k n,k∈yS h0->(b,n)∉β k)->w'.heap[b]? =w.heap[b]? :=λb hb hk=>G.keep b hb λk n hm=>by
  obtain⟨q1,q2⟩:=hβm k b n hm;exact hk k n q1 q2
 have keepO:∀k b n,¬k∈yS h0->(b,n)∈β k->w'.heap[b]? =w.heap[b]? :=λk b n hk hm=>keepK b (HH.lt b (.inr ⟨k,n,hm⟩)) λk' n' hk' hm'=>hk (HH.disj k k' b n n' hm hm'▸hk')
 have bs':∀k b n,(b,n)∈β k->wG w' b=wG w b:=λk b n hm=>by
  by_cases hk:k∈yS h0
  ·exact G.bs k b n (by rw[hβc k hk];exact hm)
  ·unfold wG World.shape?;rw[keepO k b n hk hm]
 have key':∀k e,h k=some e->over h1 h k=some .dead∨match e with
   | .dead=>False
   | .box _=>(∃cs',over h1 h k=some (.box cs'))/\∀b n,(b,n)∈β k->(b,n)∈β' k
   | .obj _=>(∃cs',over h1 h k=some (.obj cs'))/\∀b n,(b,n)∈β k->(b,n)∈β' k
   | .arr sz xs _=>(∃xs' st',over h1 h k=some (.arr sz xs' st')/\xs.length<=xs'.length)/\∀b n,(b,n)∈β k->∃n',n<=n'/\(b,n')∈β' k:=λk e he=>by
  by_cases hk:k∈yS h0
  ·have he0:=(hK k hk)▸he;have:=G.key k e he0;obtain⟨e1,he1⟩:=hin k hk;rw[he1]at this;rw[ov1 k e1 he1,hb1 k e1 he1,<-hβc k hk];exact this
  ·have hno:zC h1 k=none:=by
    cases h2:zC h1 k with
    |none=>rfl
    |some e1=>rw[hnew k e1 h2 hk]at he;cases he
   rw[ov2 k hno,hb2 k hno];exact kU h β k e he
 have own':∀k b n,(b,n)∈β' k->(∃k' n',(b,n')∈β k')∨w.heap.size<=b:=λk b n hm=>by
  rcases hβ' k b n hm with⟨_,h2⟩|⟨_,_,h2⟩
  ·rcases own1 k b n h2 with⟨k',n',_,h3⟩|h3
   ·exact .inl ⟨k',n',h3⟩
   ·exact .inr h3
  ·exact .inl ⟨k,n,h2⟩
 have keep':∀b,b<w.heap.size->(∀k n,(b,n)∉β k)->w'.heap[b]? =w.heap[b]? :=λb hb hk=>keepK b hb λk n _=>hk k n
 have E:GM w (xO X β) h β w' (xO X β') (over h1 h) β':=by
  refine⟨G.size,λb hb hd=>?_,bs',key'⟩;have q1:∀k n,(b,n)∉β k:=λk n hm=>hd (.inr ⟨k,n,hm⟩)
  refine⟨keep' b hb q1,?_⟩;rintro(hx|⟨k,n,hm⟩)
  ·exact hd (.inl hx)
  ·rcases own' k b n hm with⟨k',n',h2⟩|h2
   ·exact q1 _ _ h2
   ·omega
 have hup:∀k e,zC h1 k=some e->over h1 h k=some e/\β' k=β1 k:=λk e hk=>⟨ov1 k e hk,hb1 k e hk⟩
 have hDl:lent=false->∀b,xO X β' b->xO Xc β1 b:=λhl b hd=>by
  rcases hd with hx|⟨k,n,hm⟩
  ·exact .inl (.inl hx)
  ·rcases hβ' k b n hm with⟨_,h2⟩|⟨_,h2,h3⟩
   ·exact .inr ⟨k,n,h2⟩
   ·exact .inl (.inr ⟨hl,k,n,h2,h3⟩)
 have hcase:lent=false∨(r.nosl=true/\LW h1=true):=by
  rw[yAo]at hnb
  rcases hnb with h2|h2
  ·left;show(!(_:Bool))=false;rw[h2];rfl
  ·right;simpa using h2
 have hliftV:∀{v c},(lent=false∨v.nosl=true)->yB w' (xO Xc β1) (zC h1) β1 v c->yB w' (xO X β') (over h1 h) β' v c:=λhl hv=>by
  rcases hl with hl|hl
  ·exact zJp (h':=over h1 h) hup (λb hd _=> .inl (hDl hl b hd)) hv
  ·exact zEq hup hv hl
 have hliftF:∀{v c},(lent=false∨v.nosl=true)->xE w' (xO Xc β1) v c->xE w' (xO X β') v c:=λhl hv=>by
  rcases hl with hl|hl
  ·exact hv.evo (zX7 _) λb _ hd=>⟨rfl,λh'=>hd (hDl hl b h')⟩
  ·exact hv.free hl
 have HK:jK X (over h1 h) β' w':=by
  refine⟨λk e he=>?_,λk he=>?_,λk k' b n n' q1 q2=>?_,λk b n hm hx=>?_,λb hd=>?_⟩
  ·cases hk:zC h1 k with
   |none=>
    rw[ov2 k hk]at he;have hk0:¬k∈yS h0:=λh2=>by obtain⟨e1,he1⟩:=hin k h2;rw[hk]at he1;cases he1
    exact(HH.ent k e he).evo E (hb2 k hk) λb n hm=>keepO k b n hk0 hm
   | some e1=>
    rw[ov1 k e1 hk]at he;obtain rfl:=yAh he;have hns:lent=false∨e1.nosl=true:=hcase.imp id λh2=>DC h2.2 hk
    refine(G.hok.ent k e1 hk).lift (hb1 k e1 hk) (λcs hcs i v c hi hv=>hliftV (hns.imp id λh2=>fX (by rw[hcs]at h2;exact h2) hi) hv) λsz xs st hxs i x j v c hi hj=>by
     have hns':lent=false∨v.nosl=true:=hns.imp id λh2=>by
      have hxn:x.nosl=true:=fX (by rw[hxs]at h2;exact h2) hi
      cases x<;>first
       |(simp[AV.cells]at hj;cases j<;>simp at hj;subst hj;exact hxn)
       |(exact fX (by simpa [AV.nosl,AV.cells]using hxn) hj)
     exact⟨λhf=>hliftF hns' hf,λ_ hv=>hliftV hns' hv⟩
  ·cases hk:zC h1 k with
   |none=>rw[ov2 k hk]at he;rw[hb2 k hk];exact HH.off k he
   |some e1=>rw[ov1 k e1 hk]at he;cases he
  ·rcases hβ' k b n q1 with⟨_,h2⟩|⟨_,h2,h3⟩<;>rcases hβ' k' b n' q2 with⟨_,h4⟩|⟨_,h4,h5⟩
   ·exact G.hok.disj _ _ _ _ _ h2 h4
   ·rcases own1 k b n h2 with⟨j,m,hj,hm⟩|h6
    ·exact absurd (HH.disj j k' b m n' hm h5▸hj) h4
    ·have:=HH.lt b (.inr ⟨k',n',h5⟩);omega
   ·rcases own1 k' b n' h4 with⟨j,m,hj,hm⟩|h6
    ·exact absurd (HH.disj j k b m n hm h3▸hj) h2
    ·have:=HH.lt b (.inr ⟨k,n,h3⟩);omega
   ·exact HH.disj _ _ _ _ _ h3 h5
  ·rcases hβ' k b n hm with⟨_,h2⟩|⟨_,_,h3⟩
   ·exact G.hok.free k b n h2 (.inl hx)
   ·exact HH.free k b n h3 hx
  ·rcases hd with hx|⟨k,n,hm⟩
   ·exact zZe (HH.lt b (.inl hx)) G.size
   ·rcases hβ' k b n hm with⟨_,h2⟩|⟨_,_,h3⟩
    ·exact G.hok.lt b (.inr ⟨k,n,h2⟩)
    ·exact zZe (HH.lt b (.inr ⟨k,n,h3⟩)) G.size
 exact⟨β',⟨G.size,keep',own',bs',key',HK,G.os,G.tape,G.output⟩,hliftV (hcase.imp id (·.1)) hv⟩
def zH {f:Nat} {x:Operand} {args:Array Operand} {ats:Array Nat} {caps as':List AV} {h0 h1:List (Nat×xN)} {r:AV} (hc:xP P f as' h0 r h1) (hx:yM (zG st.tm) x= .fn f caps)
  (has:(args.toList.map (yM (zG st.tm))++caps).map (zXq (yS h0) (zC st.h))=as') (hh0:(yS h0).map (zC st.h)=(yS h0).map (zC h0)) (hcl:h0.all (λp=>clE (yS h0) p.2)=true)
  (hnb:((jO (args.toList.map (yM (zG st.tm))++caps)).all ((yS h0).contains ·)||(r.nosl&&LW h1))=true):
  wV P st (.call ⟨.value x,args,ats⟩) r h1 (yS h0++jO (args.toList.map (yM (zG st.tm))++caps)) ((yS h1).filter λk=>!(yS h0).contains k):=
 jI (hc:=⟨hc.able,hc.nd,λX w β cargs hl H ha=>hc.sim X w β cargs (by rw[hl,<-has];simp) H λi v hi=>by
  rw[<-has,zX8,zYf]at hi;obtain⟨u,hu,rfl⟩:=hi
  exact(ha i _ (by rw[zX8,hu];rfl)).wk⟩) hx Z hh0 hcl hnb
end
section
section ops
variable {P:Program} {K0:List Nat} {F:Fr K0} {m:Nat} {ops:Array Oper} {rest:List Oper} {Q:St->Prop} {tm:List (Nat×AV)} {h:List (Nat×xN)}
def zOq {st:St} (hq:Q st):GL P F m ops [] st Q:=λ_ _ H=>⟨rfl,st,hq,H⟩
def zJq {o:Oper} {st:St} {v:AV} {d:List (Nat×xN)} {r nw:List Nat} {st':St} (hg:o.guard=none) (hs:wV P st o.op v d r nw) (hn:∀k,k∈nw->zC st.h k=none) (hd:uG d=true) (hm:∀t,o.dst=some t->t<m)
  (he:∀t,zG st'.tm t=if o.dst=some t then v else zG st.tm t) (hh:zC st'.h=over d (zC st.h)) (hk:GL P F m ops rest st' Q):GL P F m ops (o::rest) st Q:=λa w H=>
 wpListIn_plain hg λK hK=>hs.rel H (λ_ _=>rfl) (λ_ _=>rfl) hn hd hm λa' w' H'=>hK _ _ (hk a' w' (by
  have e1:zG st'.tm=λt=>if o.dst=some t then v else zG st.tm t:=funext he
  unfold wN;rw[e1,hh]
  exact H'))
section
variable {op:Op} {ty:Nat} {pos:String} {after:Array Edge} {t:Nat} {v:AV} {r nw:List Nat}
end
def UV (ops:Array Oper) (j:Nat):Option Nat:=(ops[j]?).bind (·.dst)
def gw (v:Value) (b:Bool):Bool:=match v with
 | .bool c=>c==b
 |_=>false
def aR {o:Oper} {j t:Nat} {b:Bool} {v:Value} (hg:o.guard=some (j,b)) (ht:UV ops j=some t) {a:Act} (hv:a.eval (.tmp t)=v):Region.wanted o (yielded ops a.tmps)=gw v b:=by
 subst hv;simp only[Region.wanted,hg,yielded,show(ops[j]?).bind (·.dst)=some t from ht,Option.bind_some,Act.eval,zY7]
 cases h:a.tmps[t]? with
 |none=>simp[undef,gw]
 |some u=>cases u<;>simp[gw]
def DD {st:St} {a:Act} {w:World} (H:wN F m st a w) {t:Nat} {c:Value} (hv:zG st.tm t= .s c):a.eval (.tmp t)=c:=by
 obtain⟨⟨_,β,_,_,Ht,_⟩,_⟩:=H;have:=Ht t;rw[hv]at this;exact this.s_inv
def zTn {d:Option Nat} {op:Op} {ty:Nat} {pos:String} {after:Array Edge} {j t:Nat} {b:Bool} {st:St} (ht:UV ops j=some t) (hv:zG st.tm t= .s (.bool b)) (hk:GL P F m ops (⟨d,op,ty,pos,after,none⟩::rest) st Q):
  GL P F m ops (⟨d,op,ty,pos,after,some (j,b)⟩::rest) st Q:=λa w H=>by
 have hw:=aR (o:=⟨d,op,ty,pos,after,some (j,b)⟩) Z ht (DD H hv);have:=hk a w H;unfold wpListIn at this⊢;rw[zX3 (by rw[hw];simp[gw])];rw[zX3 (by simp[Region.wanted])]at this;exact this
theorem VD.bot {tm:Nat->AV} {h:yJ} {a:Act} {w:World} (H:VD F m tm h a w) (dst:Option Nat) (hm:∀t,dst=some t->t<m):VD F m (λt=>if dst=some t then .s undef else tm t) h (a.put dst undef) w:=by
 obtain⟨⟨X,β,hX,HH,Ht,KK,hJ,hD⟩,nd,gs,hl⟩:=H;exact VD.put hX HH Ht KK hJ hD gs hl (xK.refl HH) nd (.fz _ _ (.s _)) dst hm
def zOr {d:Nat} {op:Op} {ty:Nat} {pos:String} {after:Array Edge} {j t:Nat} {b:Bool} {c:Value} (ht:UV ops j=some t) (hv:zG tm t= .s c) (hc:gw c b=false) (hm:Nat.blt d m=true) (hk:GL P F m ops rest ⟨(d,.s undef)::tm,h⟩ Q):
  GL P F m ops (⟨some d,op,ty,pos,after,some (j,b)⟩::rest) ⟨tm,h⟩ Q:=λa w H=>by
 have hw:=aR (o:=⟨some d,op,ty,pos,after,some (j,b)⟩) Z ht (DD H hv);unfold wpListIn;rw[zX2 (by rw[hw,hc];simp)];refine⟨λ_ _=>trivial,hk _ _ ?_⟩;have:=VD.bot H (some d) (λj hj=>by cases hj;exact zYm hm)
 have e1:zG ((d,.s undef)::tm)=λt=>if some d=some t then AV.s undef else zG tm t:=funext λt=>by rw[yP];simp[eq_comm]
 unfold wN;rw[e1];exact this
def DE {st:St} {l:List Oper} {t:Nat} {c c':Bool} (hv:zG st.tm t= .s (.bool c)) (hc:c=c') (hk:GL P F m ops l ⟨(t,.s (.bool c'))::st.tm,st.h⟩ Q):GL P F m ops l st Q:=λa w H=>hk a w (by
 subst hc
 have e1:zG ((t,.s (.bool c))::st.tm)=zG st.tm:=funext λj=>by
  rw[yP];split
  ·rename_i h;subst h;exact hv.symm
  ·rfl
 unfold wN;dsimp only;rw[e1]
 exact H)
def zEr {st:St} {l:List Oper} {t:Nat} {c:Bool} (hv:zG st.tm t= .s (.bool c)) (h1:c=true->GL P F m ops l ⟨(t,.s (.bool true))::st.tm,st.h⟩ Q) (h2:c=false->GL P F m ops l ⟨(t,.s (.bool false))::st.tm,st.h⟩ Q):GL P F m ops l st Q:=by
 cases c with
 |true=>exact DE hv Z (h1 Z)
 |false=>exact DE hv Z (h2 Z)
end ops
section code
variable {P:Program} {K0:List Nat} {F:Fr K0} {m:Nat} {Q:Exit->St->Prop} {st:St}
def jJ {c:Code} (K ts:List Nat) (hK:K0.all (K.contains ·)=true) {st':St} (he:restr K ts st=st') (h:uQ P F m c st' Q):uQ P F m c st Q:=⟨λa w H=>h.run a w (he▸wN.restr H K ts hK)⟩
def vH {c:Code} (I:Nat->St->Prop) (n:Nat) (K ts:List Nat) (hK:K0.all (K.contains ·)=true) (h0:I n (restr K ts st)) (round:∀n st,I n st->uQ P F m c st (λe s=>match e with
  | .normal=>∃n',n'<n/\I n' (restr K ts s)
  |e=>Q e s)):uQ P F m (.loop c) st Q:=by
 refine jJ K ts hK Z ⟨λa w H=>?_⟩;refine QK (λn a w=>∃st,I n st/\wN F m st a w) n ⟨_,h0,H⟩ λn a w ⟨st,hI,hR⟩=>?_
 refine Code.wpIn_mono (λe a' w' ⟨s,h1,h2⟩=>?_) ((round n st hI).run a w hR)
 cases e with
 |normal=>
  obtain⟨n',hlt,hI'⟩:=h1;exact⟨n',hlt,_,hI',wN.restr h2 K ts hK⟩
 |_=>exact⟨s,h1,h2⟩
end code
def MU (TT:List TI) (st:St):List ResultVar->Option (List AV)
 | []=>some []
 | .tmp t::r=>(MU TT st r).map (zG st.tm t:: ·)
 | .cell a T::r=>match zG st.tm a with
  | .ptr k 0 off=>match zC st.h k,TT[T]? with
   |some (.box cs),some ti=>match ldv ti.d.agg ti.size cs off with
    |some v=>(MU TT st r).map (v:: ·)
    |none=>none
   |_,_=>none
  |_=>none
def DF:List AV->AV
 | [v]=>v
 |vs=> .tup vs
def zJr (tmps:Array Value):ResultVar->Sem Value
 | .tmp t=>pure (tmps.getD t undef)
 | .cell b t=>do loadVar t (<-asAddr (tmps.getD b undef))
theorem OS {P:Program} {TT:List TI} (hP:uZ P TT) {st:St} {X:Nat->Prop} {β:uW} {w:World} {a:Act} (H:jK X (zC st.h) β w) (Ht:∀t,yB w (xO X β) (zC st.h) β (zG st.tm t) (a.eval (.tmp t))):
  ∀(l:List ResultVar) (vs:List AV),MU TT st l=some vs->∃cs:List Value,(l.mapM (zJr a.tmps)).run P w= .ok cs w/\cs.length=vs.length/\
   ∀(i:Nat) v,vs[i]? =some v->yB w (xO X β) (zC st.h) β v (cs.getD i undef)
 | [],vs,h=>by cases h;exact⟨[],rfl,rfl,λi v hv=>by simp at hv⟩
 | .tmp t::r,vs,h=>by
  simp only[MU,zYf]at h;obtain⟨vs',h1,rfl⟩:=h;obtain⟨cs,h2,h3,h4⟩:=OS hP H Ht r vs' h1;refine⟨a.tmps.getD t undef::cs,by simp only[yDz,zJr,Sem.run_bind,Sem.run_pure,Result.andThen_ok,h2],by simp[h3],λi v hv=>?_⟩
  cases i with
  |zero=>simp at hv;subst hv;exact Ht t
  |succ i=>simpa using h4 i v DN
 | .cell b T::r,vs,h=>by
  simp only[MU]at h;split at h
  ·rename_i k off hb;split at h
   ·rename_i cs ti hk hT;split at h
    ·rename_i v hv;rw[zYf]at h;obtain⟨vs',h1,rfl⟩:=h;obtain⟨cs',h2,h3,h4⟩:=OS hP H Ht r vs' h1;have hp:=Ht b;rw[hb]at hp;obtain⟨bl,hc,_,hR⟩:=PG H hk hp;obtain⟨c,h5,h6⟩:=IU hP hT hR hv;rw[zZm]at h5;have hc':a.tmps.getD b undef= .pointer (some ⟨bl,off,none⟩):=hc;refine⟨c::cs',by simp only[yDz,zJr,Sem.run_bind,hc',asAddr,Sem.run_pure,Result.andThen_ok,h5,h2],by simp[h3],λi v hv=>?_⟩
     cases i with
     |zero=>simp at hv;subst hv;exact h6
     |succ i=>simpa using h4 i v DN
    ·cases h
   ·cases h
  ·cases h
def UW:Nat->List AV->List (Nat×AV)
 |_,[]=>[]
 |i,v::r=>(i,v)::UW (i+1) r
theorem VG:∀(l:List AV) (i t:Nat),zG (UW i l) t=if i<=t then l.getD (t-i) .bot else .bot
 | [],i,t=>by simp[UW,zG]
 | v::r,i,t=>by
  rw[UW,yP,VG r];by_cases h:t=i
  ·subst h;simp
  ·rw[zX2 h];by_cases h2:i<=t
   ·rw[zX3 h2,zX3 (by omega),show t-i=(t-(i+1))+1 by omega];simp
   ·rw[zX2 h2,zX2 (by omega)]
def Fin (TT:List TI) (rs:List ResultVar) (h0:List (Nat×xN)) (r:AV) (h1:List (Nat×xN)) (e:Exit) (st:St):Prop:=
 (e= .normal∨e= .ret)/\∃vs K,MU TT st rs=some vs/\(yS h0).all (K.contains ·)=true/\(r=wQ K (zC st.h) (DF vs)∨r=VE (wQ K (zC st.h) (DF vs)))/\zC h1=zC (vD K (zC st.h))
def zI {TT:List TI} {rs:List ResultVar} {h0:List (Nat×xN)} {r:AV} {h1:List (Nat×xN)} {st:St} {vs:List AV} (K:List Nat) (h:MU TT st rs=some vs) (hK:(yS h0).all (K.contains ·)=true) (hr:VE (wQ K (zC st.h) (DF vs))=r) (hh:vD K (zC st.h)=h1):
 Fin TT rs h0 r h1 .ret st:=⟨.inr Z,vs,K,h,hK,.inr hr.symm,by rw[hh]⟩
def zL {TT:List TI} {rs:List ResultVar} {h0:List (Nat×xN)} {r:AV} {h1:List (Nat×xN)} {st:St} {vs:List AV} (K:List Nat) (h:MU TT st rs=some vs) (hK:(yS h0).all (K.contains ·)=true) (hr:wQ K (zC st.h) (DF vs)=r) (hh:vD K (zC st.h)=h1):
 Fin TT rs h0 r h1 .ret st:=⟨.inr Z,vs,K,h,hK,.inl hr.symm,by rw[hh]⟩
theorem xE.less {w:World} {D D':Nat->Prop} (h:∀b,D' b->D b) {v:AV} {c:Value} (hv:xE w D v c):xE w D' v c:=
 hv.evo (zX7 _) λb _ hd=>⟨rfl,λh'=>hd (h b h')⟩
theorem yB.less {w:World} {X X':Nat->Prop} {h:yJ} {β:uW} (hX:∀b,X' b->X b) {v:AV} {c:Value} (hv:yB w (xO X β) h β v c):yB w (xO X' β) h β v c:=
 hv.evo ⟨zX7 _,λb _ hd=>⟨rfl,λh'=>hd (h'.imp (hX b) id)⟩,λ_ _ _ _=>rfl,kU h β⟩
theorem jK.less {w:World} {X X':Nat->Prop} {h:yJ} {β:uW} (hX:∀b,X' b->X b) (H:jK X h β w):jK X' h β w:=
 ⟨λk e he=>(H.ent k e he).evo ⟨zX7 _,λb _ hd=>⟨rfl,λh'=>hd (h'.imp (hX b) id)⟩,λ_ _ _ _=>rfl,kU h β⟩ rfl λ_ _ _=>rfl,H.off,H.disj,λk b n hm hx=>H.free k b n hm (hX b hx),λb hd=>H.lt b (hd.imp (hX b) id)⟩
def UX {w w':World} {X:Nat->Prop} {h:yJ} {β:uW} (H:jK X h β w) (hs:w.heap.size<=w'.heap.size) (hk:∀b,b<w.heap.size->¬X b->w'.heap[b]? =w.heap[b]?):GM w (xO X β) h β w' (xO X β) h β:=
 ⟨hs,λb hb hd=>⟨hk b hb λhx=>hd (.inl hx),hd⟩,λk b n hm=>by
  unfold wG World.shape?
  rw[hk b (H.lt b (.inr ⟨k,n,hm⟩)) (H.free k b n hm)],kU h β⟩
theorem jK.turn {w w':World} {X:Nat->Prop} {h:yJ} {β:uW} (H:jK X h β w) (hs:w.heap.size<=w'.heap.size) (hk:∀b,b<w.heap.size->¬X b->w'.heap[b]? =w.heap[b]?):jK X h β w':=
 ⟨λk e he=>(H.ent k e he).evo (UX H hs hk) Z λb n hm=>hk b (H.lt b (.inr ⟨k,n,hm⟩)) (H.free k b n hm),H.off,H.disj,H.free,λb hd=>zZe (H.lt b hd) hs⟩
theorem UY {P:Program} {fn:Func} {tmps:Array Value} {R:Ending->World->Prop}:∀(bs:List Nat) (w:World),bs.Nodup->(∀b,b∈bs->w.heap[b]? =some (.deferred (some [])))->
  (∀w',w'.heap.size=w.heap.size->(∀b,¬b∈bs->w'.heap[b]? =w.heap[b]?)->w'.os=w.os->w'.tape=w.tape->w'.output=w.output->∃v,(results fn tmps).run P w'= .ok v w'/\R (.returned v) w')->
  LeavesInM Fence.wide 0 P fn tmps R (bs.map λb=>{target:= .collected b,args:= #[]}) .returning w
 | [],w,_,_,h=>h w Z (λ_ _=>rfl) Z Z Z
 |b::bs,w,hn,hb,h=>by
  have hn':=List.nodup_cons.1 hn;refine⟨by simp,.inl ⟨b,w.putObj b (.deferred none),rfl,run_takeDeferred (hb b zW),UY bs _ hn'.2 (λc hc=>?_) (λw' h1 h2 h3 h4 h5=>?_)⟩⟩
  ·rw[World.putObj_heap_other (show c≠b from λe=>hn'.1 (by rw[<-e];exact hc))];exact hb c (by simp[hc])
  ·refine h w' (by rw[h1];simp) (λc hc=>?_) h3 h4 h5;simp at hc;rw[h2 c hc.2,World.putObj_heap_other hc.1]
theorem VH {P:Program} {TT:List TI} (hP:uZ P TT) {f:Nat} {fn:Func} {body:Code} {args:List AV} {h0:List (Nat×xN)} {r:AV} {h1:List (Nat×xN)} (hf:P.funcs[f]? =some fn) (hb:fn.body=some body) (able:bY P f) (hlen:Nat.ble args.length fn.ntmps=true)
    (hnd:uG h0=true) (hnd1:uG h1=true) (h:∀F:Fr (yS h0),F.ro=none/\F.it=false->uQ P F fn.ntmps body ⟨UW 0 args,h0⟩ (Fin TT fn.results.toList h0 r h1)) (hgs:Nat.ble fn.ntmps GS=true:=by rfl):xP P f args h0 r h1:=by
  refine⟨able,λk=>qI hnd1,λX w β cargs hcl H hargs=>(callsIn_wide (n:=0)).1 ?_⟩;have hlen:=zYm hlen
  let F:Fr (yS h0):=⟨X,w,β,zC h0,λk b n hm=>by
    cases hk:zC h0 k with
    |none=>rw[H.off k hk]at hm;simp at hm
    |some e=>exact uL hk,λk e he=>uL he,none,false,λ_=>False,λ_ _ _ _=>True,λ_ _ _ _ _ _ _ _ _ _ _ _ _ _=>trivial⟩
  refine callsIn_of_wp_marks (F:=Fence.wide) (n:=0) hf hb trivial (Code.wpIn_mono (λe a' w1 q=>?_) ((h F ⟨rfl,rfl⟩).run _ w ⟨⟨X,β,⟨λ_ h=>h,λ_ h=> .inl h⟩,H,λt=>?_,⟨λk e he=>?_,zX7 _,λ_ _ _ _=>rfl,λk b n hm=> .inl ⟨k,n,hm⟩,λk b n hm=>⟨n,zX7 _,hm⟩,λ_ _ _ _=>rfl,rfl,rfl,rfl⟩,λ_ _=>trivial,[],rfl,λ_=>rfl,yDf,λb hb=>by simp at hb⟩,λk=>qI hnd,zYm hgs,by simp;omega⟩)) Z
  · obtain ⟨st,⟨he,vs,K,hv,hK,hr,hh⟩,R⟩:=q;obtain⟨⟨X2,β2,⟨hX2,_⟩,H2',Ht2',KK',_,bs,hds,_,hbn,hbs⟩,nd2,_,hl2⟩:=R
    have goal:LeavesInM Fence.wide 0 P fn a'.tmps (λe w'=>∃c β',e= .returned c/\xK X w (zC h0) β w' (zC h1) β'/\yB w' (xO X β') (zC h1) β' r c) a'.defers .returning w1:=by
     rw[hds];refine UY bs w1 hbn (λb hb=>(hbs b hb).2.2) λw' sz kp o1 o2 o3=>?_
     have kp':∀b,b<w1.heap.size->¬X2 b->w'.heap[b]? =w1.heap[b]? :=λb _ hx=>kp b λhm=>hx (hbs b hm).1
     have H2:=H2'.turn (zZ5 sz.symm) kp';have Ht2:=λt=>(Ht2' t).evo (UX H2' (zZ5 sz.symm) kp')
     have KK:gZ F (zC st.h) β2 w':=⟨KK'.knd,by rw[sz];exact KK'.size,λb hb hi hn=>by rw[kp b λhm=>by have:=(hbs b hm).2.1;omega];exact KK'.keep b hb hi hn,KK'.own,KK'.pas,λk b n hm=>by
      rw[<-KK'.bs k b n hm];obtain⟨n',_,hm'⟩:=KK'.pas k b n hm;unfold wG World.shape?
      rw[kp' b (H2'.lt b (.inr ⟨k,n',hm'⟩)) (H2'.free k b n' hm')],o1.trans KK'.os,o2.trans KK'.tape,o3.trans KK'.output⟩
     obtain⟨cs,q1,q2,q3⟩:=OS hP H2 Ht2 _ _ hv;obtain⟨H3',hv3'⟩:=H2.restr K;have H3:=H3'.less hX2;have hv3:=λv c hv=>(hv3' v c hv).less hX2
     have hrun:∃c,(results fn a'.tmps).run P w'= .ok c w'/\yB w' (xO X2 β2) (zC st.h) β2 (DF vs) c:=by
       have hm:(fn.results.mapM (zJr a'.tmps)).run P w'= .ok cs.toArray w':=by
         rw[<-Array.toArray_toList (xs:=fn.results),List.mapM_toArray];simp only[Sem.run_map,q1,Result.andThen_ok]
       have hres:(results fn a'.tmps).run P w'= .ok (if h:cs.toArray.size=1 then cs.toArray[0]else .tuple cs.toArray) w':=by
         show(fn.results.mapM (zJr a'.tmps) >>= λvs=>pure (if h:vs.size=1 then vs[0]else .tuple vs)).run P w'=_
         rw[Sem.run_bind,hm];rfl
       refine⟨_,hres,?_⟩;by_cases h1:cs.length=1
       · rw[dif_pos DM]
         match cs,vs,h1,q2,q3 with
         | [c],[v],_,_,q3=>exact q3 0 v Z
       · rw[dif_neg DM]
         have hvs:DF vs= .tup vs:=by
           match vs,q2 with
           | [],_=>rfl
           | [v],q2=>exact absurd q2 h1
           |_::_::_,_=>rfl
         rw[hvs];exact .tup vs _ (by simpa using q2) λi v hi=>by simpa [List.getD]using q3 i v hi
     obtain⟨c,hc1,hc2⟩:=hrun
     have hpost:∃c β',Ending.returned c= .returned c/\(results fn a'.tmps).run P w'= .ok c w'/\xK X w (zC h0) β w' (zC h1) β'/\yB w' (xO X β') (zC h1) β' r c:=by
       refine⟨c,λk=>if k∈K then β2 k else [],rfl,hc1,?_,?_⟩
       · rw [hh];refine⟨KK.size,λb hb hn=>KK.keep b hb (λhf=>hf) hn,λk b n hm=>?_,KK.bs,λk e he=> .inr ?_,H3,KK.os,KK.tape,KK.output⟩
         · (try dsimp only at hm)
           split at hm
           · exact KK.own k b n hm
           · simp at hm
         · have hkK:k∈K:=by
             have:=zYi.1 hK k (uL he);simpa using this
           have h1:=KK.knd k e he;have hrr:∀e',zC st.h k=some e'->zC (vD K (zC st.h)) k=some (kI K (zC st.h) e'):=λe' h2=>by rw[xZ,zX3 hkK,h2];rfl
           cases e with
           |dead=>exact h1
           | box cs0=>
             obtain⟨cs',h2⟩:=h1;refine⟨⟨_,hrr _ h2⟩,λb n hm=>?_⟩
             (try dsimp only)
             rw[zX3 hkK];obtain⟨n',hn',hm'⟩:=KK.pas k b n hm;obtain⟨b2,_,_,e2,_⟩:=H2.ent k _ h2;obtain⟨b1,_,_,e1,_⟩:=H.ent k _ he;rw[e1]at hm;rw[e2]at hm'⊢;simp at hm hm'⊢;exact⟨hm'.1,hm.2⟩
           | obj cs=>
             obtain⟨cs',h2⟩:=h1;refine⟨⟨_,hrr _ h2⟩,λb n hm=>?_⟩
             (try dsimp only)
             rw[zX3 hkK];obtain⟨n',hn',hm'⟩:=KK.pas k b n hm;have e2:=(H2.ent k _ h2).1;have e1:=(H.ent k _ he).1;rw[e1]at hm;rw[e2]at hm'⊢;simp at hm hm'⊢;exact⟨hm'.1,hm.2⟩
           | arr sz xs sl=>
             obtain⟨xs',sl',h2,h3⟩:=h1;obtain⟨xs2,fl2,h4,h5⟩:=gT K (zC st.h) sz xs' sl';refine⟨⟨xs2,fl2,(hrr _ h2).trans (by rw[h4]),by rw[h5];exact h3⟩,λb n hm=>?_⟩
             (try dsimp only)
             rw[zX3 hkK];exact KK.pas k b n hm
       · rw[hh]
         rcases hr with rfl|rfl
         · exact hv3 _ _ hc2
         · exact(hv3 _ _ hc2).wk
     obtain⟨c,β',_,hc1,hc2,hc3⟩:=hpost;exact⟨c,hc1,c,β',rfl,hc2,hc3⟩
    rcases he with rfl|rfl
    · exact goal
    · exact goal
  · show yB w (xO X β) (zC h0) β (zG (UW 0 args) t) _
    rw[VG,zX3 (zYl _),yCe];by_cases ht:t<args.length
    · have h2:args[t]? =some (args.getD t .bot):=by simp[List.getD,ht]
      have:=hargs t _ h2
      have e:Act.eval {tmps:=cargs++Array.replicate (fn.ntmps-cargs.size) undef,defers:=[]} (.tmp t)=cargs.getD t undef:=by
        simp only[Act.eval,zY7];rw[zZ9 (by omega)]
      rw[e];exact this
    · have:args.getD t .bot= .bot:=by simp[List.getD,zYx (by omega:args.length<=t)]
      rw[this];exact .fz _ _ (.bot _)
  · have he':zC h0 k=some e:=he
    cases e with
    |dead=>exact absurd he' (qI hnd)
    |box cs=>exact⟨cs,he'⟩
    |obj cs=>exact⟨cs,he'⟩
    |arr sz xs sl=>exact⟨xs,sl,he',zX7 _⟩
end
def eQ (l:Array Bool) (i:Nat):Bool:=l.getD i false
def binds (e:Edge):Bool:=Region.binds .any e
def zOs (ops:Array Oper):Bool:=(List.range ops.size).all λi=>((ops[i]?).map λo=>o.after.all λe=>!binds e||decide (e.on<i)).getD false
def mask (T:List Nat):List Edge->Nat->Nat
 | [],m=>m
 |e::r,m=>mask T r (bif binds e then m ||| (2 ^ e.on ||| T.getD e.on 0)else m)
def zQx:List Oper->List Nat->List Nat
 | [],T=>T
 |o::r,T=>zQx r (T++[mask T o.after.toList 0])
def MV (ops:List Oper):List Nat:=zQx ops []
def okT (ops:Array Oper) (T:List Nat):Bool:=
 (List.range ops.size).all λi=>((ops[i]?).map λo=>Nat.beq (T.getD i 0) (mask T o.after.toList 0)).getD false
def bit (T:List Nat) (i j:Nat):Bool:=(T.getD i 0).testBit j
theorem DG (T:List Nat) (j:Nat):∀(l:List Edge) (m:Nat),(mask T l m).testBit j=true->m.testBit j=true∨∃e,e∈l/\binds e=true/\(e.on=j∨bit T e.on j=true)
 | [],m,h=> .inl h
 | e::r,m,h=>by
  rcases DG T j r _ h with h1|⟨e',h1,h2,h3⟩
  ·cases hb:binds e with
   |false=>rw[hb]at h1;exact .inl h1
   |true=>
    rw[hb,zZo,yD1,yD1,Nat.testBit_two_pow,yAo,yAo]at h1
    rcases h1 with h1|h1|h1
    ·exact .inl h1
    ·exact .inr ⟨e,by simp,hb,.inl DM⟩
    ·exact .inr ⟨e,by simp,hb,.inr h1⟩
  ·exact .inr ⟨e',by simp[h1],h2,h3⟩
def UZ (l:Array Bool) (i j:Nat) (hi:i<l.size):eQ (l.setIfInBounds i true) j=if j=i then true else eQ l j:=by
 unfold eQ;by_cases e:j=i
 ·subst e;simp[zY7,hi]
 ·rw[zX2 e];simp only[zY7,Array.getElem?_setIfInBounds_ne (Ne.symm e)]
def cnt (p:Nat->Bool):Nat->Nat
 |0=>0
 |k+1=>cnt p k+if p k then 1 else 0
def zEs {p q:Nat->Bool} (n:Nat) (h:∀i,i<n->p i=q i):cnt p n=cnt q n:=by
 induction n with
 |zero=>rfl
 |succ n ih=>unfold cnt;rw[ih λi hi=>h i (by omega),h n (by omega)]
def zTo (p:Nat->Bool) (n:Nat):cnt p n<=n:=by
 induction n with
 |zero=>exact zX7 _
 |succ n ih=>unfold cnt;split<;>omega
def zC1 {p q:Nat->Bool} (n i:Nat) (hi:i<n) (hp:p i=false) (h:∀j,j≠i->q j=p j):cnt q n=cnt p n+if q i then 1 else 0:=by
 induction n with
 |zero=>omega
 |succ n ih=>
  unfold cnt;by_cases e:i=n
  ·subst e;rw[zEs (q:=p) i λj hj=>h j (by omega),hp];simp
  ·rw[ih (by omega),h n (λe'=>e e'.symm)];omega
section
variable {ops:Array Oper} {T:List Nat}
def II (hA:zOs ops=true) (hT:okT ops T=true) {l:Array Bool} (hd:∀i o,ops[i]? =some o->eQ l i=true->∀e∈o.after,binds e=true->eQ l e.on=true):
  ∀(n i:Nat) (o:Oper),i<n->ops[i]? =some o->(∀e∈o.after,binds e=true->eQ l e.on=true)->∀j,bit T i j=true->eQ l j=true:=by
 intro n
 induction n with
 |zero=>intro i o h;omega
 | succ n ih=>
  intro i o hin ho he j hj;have hi:i<ops.size:=(yAq.1 ho).1;have h1:=zYi.1 hT i (zYs.2 hi);simp only[ho,Option.map_some,yAg]at h1;unfold bit at hj;rw[zY2 h1]at hj
  rcases DG T j _ _ hj with h2|⟨x,hx,hb,h2⟩
  ·simp at h2
  have hm:x∈o.after:=by simpa using hx
  have hl:=he _ hm hb
  rcases h2 with h2|h2
  ·rw[<-h2];exact hl
  ·have h3:=zYi.1 hA i (zYs.2 hi);obtain⟨y,hy,rfl⟩:=Array.getElem_of_mem hm;simp only[ho,Option.map_some,yAg,yDm,yAo,yAn,zX9]at h3;have h4:o.after[y].on<i:=(h3 y hy).resolve_left (by rw[hb];simp);have h5:o.after[y].on<ops.size:=by omega
   exact ih _ ops[o.after[y].on] (by omega) (by simp[h5]) (hd _ _ (by simp[h5]) hl) j h2
def aA {l:Array Bool} {i:Nat} (hs:l.size=ops.size) (h:i∈Region.ready .any ops l):∃o,ops[i]? =some o/\eQ l i=false/\∀e∈o.after,binds e=true->eQ l e.on=true:=by
 unfold Region.ready at h;rw[yBn,zYs]at h;obtain⟨hi,h⟩:=h;have ho:ops[i]? =some ops[i]:=by simp[hi]
 simp only[ho,Option.map_some,yAg,zYg,yAn,yDm,yAo]at h;refine⟨ops[i],ho,?_,λe he hb=>?_⟩
 ·have:=h.1;unfold eQ;simp only[zY7]at this⊢;rw[Array.getElem?_eq_getElem (by omega)]at this⊢;simpa using this
 ·obtain⟨x,hx,rfl⟩:=Array.getElem_of_mem he
  rcases h.2 x hx with h2|h2
  ·unfold binds at hb;rw[hb]at h2;cases h2
  ·exact h2
def zEt (hA:zOs ops=true) {l:Array Bool} (hs:l.size=ops.size) (h:Region.ready .any ops l=[]):∀n i,i<n->i<ops.size->eQ l i=true:=by
 intro n
 induction n with
 |zero=>intro i h;omega
 | succ n ih=>
  intro i hin hi
  cases hl:eQ l i with
  |true=>rfl
  | false=>
   exfalso
   have hm:i∈Region.ready .any ops l:=by
    unfold Region.ready;rw[yBn,zYs];refine⟨hi,?_⟩;have ho:ops[i]? =some ops[i]:=by simp[hi]
    have h3:=zYi.1 hA i (zYs.2 hi);simp only[ho,Option.map_some,yAg,zYg,yAn,yDm,yAo,zX9]at h3⊢;refine⟨?_,λx hx=>?_⟩
    ·unfold eQ at hl;simp only[zY7]at hl⊢;rw[Array.getElem?_eq_getElem (by omega)]at hl⊢;simpa using hl
    ·rcases h3 x hx with h4|h4
     ·exact .inl h4
     ·exact .inr (ih _ (by omega) (by omega))
   rw[h]at hm;cases hm
end
structure OT where
 on:Bool
 v:AV
 d:List (Nat×xN)
 r:List Nat
 nw:List Nat
def St.app (st:St) (dst:Option Nat) (v:AV) (d:List (Nat×xN)):St:=⟨match dst with
 |some t=>(t,v)::st.tm
 |none=>st.tm,d++st.h⟩
def gOf (ops:Array Oper) (o:Oper):List Nat:=match o.guard with
 |some (j,_)=>(UV ops j).toList
 |none=>[]
def DH (P:Program) (m:Nat) (ops:Array Oper) (o:Oper) (st:St) (e:OT):Prop:=
 uG e.d=true/\(∀t,o.dst=some t->t<m)/\(∀k,k∈e.nw->zC st.h k=none)/\
 (e.on=true->wV P st o.op e.v e.d e.r e.nw)/\(e.on=false->e.v= .s undef/\e.d=[])/\
 match o.guard with
  |none=>e.on=true
  |some (j,b)=>∃t c,UV ops j=some t/\zG st.tm t= .s c/\e.on=gw c b
def Tr (P:Program) (m:Nat) (ops:Array Oper):List Oper->St->List OT->St->Prop
 | [],st,[],st'=>st=st'
 |o::l,st,e::es,st'=>DH P m ops o st e/\Tr P m ops l (st.app o.dst e.v e.d) es st'
 |_,_,_,_=>False
def jE (L:Nat->Bool):Nat->List (Option Nat×OT)->St->St
 |_,[],st=>st
 |i,(dst,e)::r,st=>jE L (i+1) r (bif L i then st.app dst e.v e.d else st)
def TA (st:St) (dst:Option Nat) (v:AV) (d:List (Nat×xN)) (t:Nat):zG (st.app dst v d).tm t=if dst=some t then v else zG st.tm t:=by
 cases dst with
 |none=>simp[St.app]
 |some j=>simp only[St.app,yP,zZh];by_cases h:t=j<;>simp[h,eq_comm]
def XC (st:St) (dst:Option Nat) (v:AV) (d:List (Nat×xN)) (k:Nat):zC (st.app dst v d).h k=over d (zC st.h) k:=by
 show zC (d++st.h) k=_
 rw[vG]
theorem TB {L L':Nat->Bool} {t:Nat}:∀(r:List (Option Nat×OT)) (i:Nat) (st st':St),zG st.tm t=zG st'.tm t->(∀(j:Nat) p,r[j]? =some p->p.1=some t->L (i+j)=L' (i+j))->
  zG (jE L i r st).tm t=zG (jE L' i r st').tm t
 | [],_,_,_,h,_=>h
 | (dst,e)::r,i,st,st',h,hl=>by
  refine TB r (i+1) _ _ ?_ λj p hp h1=>by have:=hl (j+1) p (by simpa using hp) h1;rwa [show i+1+j=i+(j+1) by omega]
  by_cases hd:dst=some t
  ·have:=hl 0 (dst,e) Z hd;simp only[yBa]at this;rw[this];cases L' i
   ·exact h
   ·simp only[zZo,TA,hd,yDq]
  ·cases L i<;>cases L' i<;>simp only[zZo,zZ6,TA,zX2 hd,h]
def DI {d:List (Nat×xN)} {h:yJ} {k:Nat} (hk:¬k∈yS d):over d h k=h k:=by
 unfold over
 cases he:zC d k with
 |none=>rfl
 |some e=>exact absurd (uL he) hk
def zC2 {d:List (Nat×xN)} {h h':yJ} {k:Nat} (hk:k∈yS d):over d h k=over d h' k:=by
 obtain⟨e,he⟩:=bZ hk;simp[over,he]
theorem XD {L L':Nat->Bool} {k:Nat}:∀(r:List (Option Nat×OT)) (i:Nat) (st st':St),zC st.h k=zC st'.h k->(∀(j:Nat) p,r[j]? =some p->k∈yS p.2.d->L (i+j)=L' (i+j))->
  zC (jE L i r st).h k=zC (jE L' i r st').h k
 | [],_,_,_,h,_=>h
 | (dst,e)::r,i,st,st',h,hl=>by
  refine XD r (i+1) _ _ ?_ λj p hp h1=>by have:=hl (j+1) p (by simpa using hp) h1;rwa [show i+1+j=i+(j+1) by omega]
  by_cases hd:k∈yS e.d
  ·have:=hl 0 (dst,e) Z hd;simp only[yBa]at this;rw[this];cases L' i
   ·exact h
   ·simp only[zZo,XC];exact zC2 hd
  ·cases L i<;>cases L' i<;>simp only[zZo,zZ6,XC,DI hd,h]
theorem zC3 {L:Nat->Bool} {P:Program} {m:Nat} {ops:Array Oper}:∀(l:List Oper) (es:List OT) (i:Nat) (st st':St),Tr P m ops l st es st'->(∀j,j<l.length->L (i+j)=true)->jE L i (l.zipWith (λo e=>(o.dst,e)) es) st=st'
 | [],[],_,_,_,h,_=>h
 |o::l,e::es,i,st,st',h,hl=>by
  simp only[yBr,jE];rw[show L i=true from hl 0 zW];exact zC3 l es (i+1) _ st' h.2 λj hj=>by have:=hl (j+1) (by simpa using hj);rwa [show i+1+j=i+(j+1) by omega]
 | [],_::_,_,_,_,h,_=>h.elim
 |_::_,[],_,_,_,h,_=>h.elim
theorem TC {L:Nat->Bool}:∀(r:List (Option Nat×OT)) (i:Nat) (st:St),(∀j,j<r.length->L (i+j)=false)->jE L i r st=st
 | [],_,_,_=>rfl
 |(dst,e)::r,i,st,h=>by
  unfold jE;rw[show L i=false from h 0 zW];exact TC r (i+1) st λj hj=>by have:=h (j+1) (by simpa using hj);rwa [show i+1+j=i+(j+1) by omega]
theorem Tr.len {P:Program} {m:Nat} {ops:Array Oper}:∀{l:List Oper} {es:List OT} {st st':St},Tr P m ops l st es st'->es.length=l.length
 | [],[],_,_,_=>rfl
 |o::l,e::es,_,_,h=>by simp[Tr.len h.2]
 | [],_::_,_,_,h=>h.elim
 |_::_,[],_,_,h=>h.elim
theorem Tr.at {P:Program} {m:Nat} {ops:Array Oper}:∀{l:List Oper} {es:List OT} {st st':St} (i k:Nat) (o:Oper) (e:OT),Tr P m ops l st es st'->l[i]? =some o->es[i]? =some e->
  DH P m ops o (jE (λj=>decide (j<k+i)) k (l.zipWith (λo e=>(o.dst,e)) es) st) e/\
   jE (λj=>decide (j<k+i+1)) k (l.zipWith (λo e=>(o.dst,e)) es) st=(jE (λj=>decide (j<k+i)) k (l.zipWith (λo e=>(o.dst,e)) es) st).app o.dst e.v e.d
 | o'::l,e'::es,st,st',0,k,o,e,h,h1,h2=>by
  simp at h1 h2;subst h1 h2;have q1:jE (λj=>decide (j<k+0)) k ((o'::l).zipWith (λo e=>(o.dst,e)) (e'::es)) st=st:=TC _ _ _ λj _=>by simp
  have q2:jE (λj=>decide (j<k+0+1)) k ((o'::l).zipWith (λo e=>(o.dst,e)) (e'::es)) st=st.app o'.dst e'.v e'.d:=by
   simp only[yBr,jE,show decide (k<k+0+1)=true by simp,zZo];exact TC _ _ _ λj _=>by simp
  rw[q1,q2];exact⟨h.1,rfl⟩
 |o'::l,e'::es,st,st',i+1,k,o,e,h,h1,h2=>by
  have ih:=Tr.at i (k+1) o e h.2 DM KD;simp only[yBr,jE,show decide (k<k+(i+1))=true by simp,show decide (k<k+(i+1)+1)=true by simp;omega,zZo];rw[show k+(i+1)=k+1+i by omega];exact ih
 | [],[],_,_,_,_,_,_,_,h1,_=>by simp at h1
 | [],_::_,_,_,_,_,_,_,h,_,_=>h.elim
 |_::_,[],_,_,_,_,_,_,h,_,_=>h.elim
structure FP where
 on:Bool
 w:List Nat
 r:List Nat
def OT.fp (e:OT):FP:=⟨e.on,yS e.d++e.nw,e.r⟩
def zEu (ops:Array Oper) (o:Oper):List Nat:=gOf ops o++eV o.op
def bC (ops:Array Oper) (oi oj:Oper) (fi fj:FP):Bool:=
 (match oi.dst with|some t=>(zEu ops oj).contains t||oj.dst==some t|none=>false)||(match oj.dst with|some t=>(zEu ops oi).contains t|none=>false)||
  fi.w.any (λk=>fj.w.contains k||fj.r.contains k)||fj.w.any (λk=>fi.r.contains k)
def DJ (l:List Oper) (T:List Nat) (fs:List FP):Bool:=
 zOs l.toArray&&okT l.toArray T&&(List.range l.length).all λj=>(List.range j).all λi=>match l[i]?,l[j]?,fs[i]?,fs[j]? with
  |some oi,some oj,some fi,some fj=>bit T j i|| !bC l.toArray oi oj fi fj
  |_,_,_,_=>false
section
variable {P:Program} {K0:List Nat} {F:Fr K0} {m:Nat}
theorem VD.congr {tm tm':Nat->AV} {h h':yJ} {a:Act} {w:World} (R:VD F m tm h a w) (e1:∀t,tm' t=tm t) (e2:∀k,h' k=h k):VD F m tm' h' a w:=by
 obtain rfl:tm'=tm:=funext e1;obtain rfl:h'=h:=funext e2;exact R
def VI (l:List Oper) (n:Nat) (T:List Nat) (fs:List FP):Bool:=
 zOs l.toArray&&okT l.toArray T&&((List.range n).all λj=>(List.range j).all λi=>match l[i]?,l[j]?,fs[i]?,fs[j]? with
  |some oi,some oj,some fi,some fj=>bit T j i|| !bC l.toArray oi oj fi fj
  |_,_,_,_=>false)&&Nat.ble n l.length&&((List.range l.length).all λj=>Nat.blt j n||(List.range j).all λi=>bit T j i)
theorem LX {id:Nat} {l:List Oper} (n:Nat) {st st':St} {es:List OT} {Q:Exit->St->Prop} (hm:P.follows .mixedOrders=true) (hT:Tr P m l.toArray (l.take n) st es st') (hC:VI l n (MV l) (es.map OT.fp)=true) (hB:GL P F m l.toArray (l.drop n) st' (Q .normal)):
  uQ P F m (.region id l.toArray true) st Q:=by
 refine⟨?_⟩;intro a w H;unfold VI at hC;rw[zYg,zYg,zYg,zYg,zYi,zYi]at hC;obtain⟨⟨⟨⟨hA,hTc⟩,hX⟩,hnl⟩,hY⟩:=hC;have hnl:=zYm hnl;generalize MV l=T at *;have hlen:=hT.len;rw[zYn,yDx hnl]at hlen
 have hAl:∀(i:Nat) o,(l.take n)[i]? =some o->l[i]? =some o/\i<n:=λi o h=>by
  have h1:i<n:=by
   have:=(zYu.1 h).1;rw[zYn]at this;omega
  rw[List.getElem?_take_of_lt h1]at h;exact⟨h,h1⟩
 have hbt:∀i j,n<=j->j<l.length->i<j->bit T j i=true:=λi j h1 h2 h3=>by
  have:=hY j (zYs.2 h2);rw[show Nat.blt j n=false by cases hb:Nat.blt j n with|false=>rfl|true=>exact absurd (zYm hb) (by omega),yA7,zYi]at this;exact this i (zYs.2 h3)
 let R:=(l.take n).zipWith (λo e=>(o.dst,e)) es
 have hR:∀(j:Nat) p,R[j]? =some p->∃o e,(l.take n)[j]? =some o/\es[j]? =some e/\p=(o.dst,e):=λj p hp=>by
  simp only[R,List.getElem?_zipWith]at hp
  cases ho:(l.take n)[j]? with
  |none=>simp[ho]at hp
  |some o=>cases he:es[j]? with
   |none=>simp[ho,he]at hp
   |some e=>simp[ho,he]at hp;exact⟨o,e,rfl,rfl,hp.symm⟩
 have hcl:∀i j oi oj ei ej,i<j->(l.take n)[i]? =some oi->(l.take n)[j]? =some oj->es[i]? =some ei->es[j]? =some ej->bC l.toArray oi oj ei.fp ej.fp=true->bit T j i=true:=λi j oi oj ei ej hij h1 h2 h3 h4 h5=>by
  have:=zYi.1 (hX j (zYs.2 (hAl j oj h2).2)) i (zYs.2 hij);simp only[(hAl i oi h1).1,(hAl j oj h2).1,zX8,h3,h4,Option.map_some,h5,yDk,yD3]at this;simpa using this
 let QQ:Exit->Act->World->Prop:=λe a' w'=>e= .normal/\∃s,Q .normal s/\wN F m s a' w'
 let J0:Array Bool->Prop:=λL=>L.size=l.toArray.size/\(∀i o,l.toArray[i]? =some o->eQ L i=true->∀e∈o.after,binds e=true->eQ L e.on=true)
 let JA:Array Bool->Act->World->Prop:=λL a w=>J0 L/\(∀i,n<=i->eQ L i=false)/\VD F m (zG (jE (eQ L) 0 R st).tm) (zC (jE (eQ L) 0 R st).h) a w
 let JB:Array Bool->Act->World->Prop:=λL a w=>J0 L/\∃k,(∀i,eQ L i=decide (i<n+k))/\n+k<=l.length/\wpListIn (DB F.ro) 0 P l.toArray QQ (l.drop (n+k)) a w
 let J:Array Bool->Act->World->Prop:=λL a w=>JA L a w∨JB L a w
 have hJ0:∀L a w,J L a w->J0 L:=λL a w h=>h.elim (λh=>h.1) (λh=>h.1)
 have hAB:∀L a w,JA L a w->(∀i,i<n->eQ L i=true)->JB L a w:=λL a w hJ hall=>by
  refine⟨hJ.1,0,λi=>?_,hnl,?_⟩
  ·by_cases h:i<n
   ·rw[hall i h];simp[h]
   ·rw[hJ.2.1 i (by omega)];simp[h]
  ·have:jE (eQ L) 0 R st=st':=zC3 (l.take n) es 0 st st' hT λj hj=>by rw[zZm];exact hall j (by rw[zYn]at hj;omega)
   have h2:=hJ.2.2;rw[this]at h2;exact hB a w h2
 have hend:∀L a w,(∀i,i<l.toArray.size->eQ L i=true)->J L a w->QQ .normal a w:=λL a w hall hJ=>by
  have hJB:JB L a w:=hJ.elim (λh=>hAB L a w h λi hi=>hall i xX) (λh=>h);obtain⟨_,k,h1,h2,h3⟩:=hJB
  have hk:n+k=l.length:=by
   by_cases h:n+k<l.length
   ·have h4:=hall (n+k) TJ;rw[h1]at h4;simp at h4
   ·omega
  rw[hk,yBs]at h3;exact h3
 have hcls:∀(L:Array Bool) i o,J0 L->l.toArray[i]? =some o->(∀e∈o.after,binds e=true->eQ L e.on=true)->J0 (L.setIfInBounds i true):=λL i o h0 ho hpre=>by
  obtain⟨hs,hdn⟩:=h0;have hin:i<l.toArray.size:=(yAq.1 ho).1
  have hL':∀j,eQ (L.setIfInBounds i true) j=if j=i then true else eQ L j:=λj=>UZ L i j (by rw[hs];exact hin)
  refine⟨by simpa using hs,λj oj hoj hlj ed hed hb=>?_⟩;rw[hL']at hlj⊢;by_cases hji:j=i
  ·subst hji;rw[ho]at hoj;cases hoj;split
   ·rfl
   ·exact hpre ed hed hb
  ·rw[zX2 hji]at hlj;split
   ·rfl
   ·exact hdn j oj hoj hlj ed hed hb
 have hstepB:∀L a w i,JB L a w->i∈Region.ready .any l.toArray L->∀K:Act->World->Prop,(∀a' w',J (L.setIfInBounds i true) a' w'->K a' w')->wpOpIn (DB F.ro) 0 P l.toArray QQ i K a w:=by
  intro L a w i hJ hi K hK;obtain⟨h0,k,h1,h2,h3⟩:=hJ;obtain⟨o,ho,hl,hpre⟩:=aA h0.1 hi;have hin:i<l.toArray.size:=(yAq.1 ho).1;have hin':i<l.length:=by simpa using hin
  have hge:n+k<=i:=by
   rw[h1]at hl;simpa using hl
  have hie:i=n+k:=by
   by_cases h:n+k<i
   ·have h5:=II hA hTc h0.2 (i+1) i o (by omega) ho hpre (n+k) (hbt _ _ (by omega) hin' h);rw[h1]at h5;simp at h5
   ·omega
  subst hie;rw[yAe hin']at h3
  have ho':l[n+k]'hin'=o:=by
   have:=(yAq.1 ho).2;simpa using this
  rw[ho']at h3
  have hL':∀j,eQ (L.setIfInBounds (n+k) true) j=if j=n+k then true else eQ L j:=λj=>UZ L _ j (by rw[h0.1];exact hin)
  have hnx:∀a' w',wpListIn (DB F.ro) 0 P l.toArray QQ (l.drop (n+k+1)) a' w'->K a' w':=λa' w' h=>by
   refine hK a' w' (.inr ⟨hcls L _ o h0 ho hpre,k+1,λj=>?_,by omega,h⟩);rw[hL',h1];by_cases hj:j=n+k
   ·rw[zX3 hj];simp;omega
   ·rw[zX2 hj];by_cases hj2:j<n+k
    ·simp[hj2];omega
    ·simp[hj2];omega
  unfold wpOpIn;rw[ho];dsimp only;unfold wpListIn at h3;split
  ·rename_i hw;rw[zX3 hw]at h3;exact Oper.wpIn_mono hnx h3
  ·rename_i hw;rw[zX2 hw]at h3;exact⟨h3.1,hnx _ _ h3.2⟩
 have hstep:∀L a w i,J L a w->i∈Region.ready .any l.toArray L->∀K:Act->World->Prop,(∀a' w',J (L.setIfInBounds i true) a' w'->K a' w')->wpOpIn (DB F.ro) 0 P l.toArray QQ i K a w:=by
  intro L a w i hJ hi K hK
  rcases hJ with hJ|hJ
  case inr=>exact hstepB L a w i hJ hi K hK
  by_cases hin0:i<n
  case neg=>
   refine hstepB L a w i (hAB L a w hJ λj hj=>?_) hi K hK;obtain⟨o,ho,hl,hpre⟩:=aA hJ.1.1 hi;have hin:i<l.toArray.size:=(yAq.1 ho).1;exact II hA hTc hJ.1.2 (i+1) i o (by omega) ho hpre j (hbt _ _ (by omega) (by simpa using hin) (by omega))
  obtain⟨h00,hge0,hRel⟩:=hJ;obtain⟨hs,hdn⟩:=h00;obtain⟨o,ho,hl,hpre⟩:=aA hs hi;have hin:i<l.toArray.size:=(yAq.1 ho).1;have ho':(l.take n)[i]? =some o:=by rw[List.getElem?_take_of_lt hin0];simpa using ho
  obtain⟨e,he⟩:∃e,es[i]? =some e:=⟨es[i]'(by rw[hlen];exact hin0),by simp⟩;have hahead:=II hA hTc hdn (i+1) i o (by omega) ho hpre
  have hlate:∀j,j<l.toArray.size->bit T j i=true->eQ L j=false:=λj hj hij=>by
   cases hlj:eQ L j with
   |false=>rfl
   |true=>
    have hoj:l.toArray[j]? =some l.toArray[j]:=by simp[hj]
    have:=II hA hTc hdn (j+1) j _ (by omega) hoj (hdn j _ hoj hlj) i hij;rw[hl]at this;cases this
  have hord:∀j oj ej,(l.take n)[j]? =some oj->es[j]? =some ej->j≠i->(j<i->bC l.toArray oj o ej.fp e.fp=true)->(i<j->bC l.toArray o oj e.fp ej.fp=true)->eQ L j=decide (j<i):=λj oj ej h1 h2 hne h3 h4=>by
   rcases Nat.lt_or_gt_of_ne hne with h|h
   ·rw[hahead j (hcl j i oj o ej e h h1 ho' h2 he (h3 h))];simp[h]
   ·rw[hlate j (by have:=hAl j oj h1;simp;omega) (hcl i j o oj e ej h ho' h1 he h2 (h4 h))];simp;omega
  obtain⟨⟨s1,s2,s3,s4,s5,s6⟩,hnext⟩:=hT.at i 0 o e ho' he;simp only[zZm]at s3 s4 s6 hnext
  let Li:Nat->Bool:=λj=>decide (j<i)
  have rdS:∀t,t∈zEu l.toArray o->zG (jE (eQ L) 0 R st).tm t=zG (jE Li 0 R st).tm t:=λt ht=>TB R 0 st st Z λj p hp hd=>by
   obtain⟨oj,ej,h1,h2,rfl⟩:=hR j p hp;rw[zZm];by_cases hji:j=i
   ·subst hji;simp only[Li];rw[hl];simp
   ·refine hord j oj ej h1 h2 hji (λ_=>?_) λ_=>?_
    ·unfold bC;simp only[show oj.dst=some t from hd,yA8.2 ht,yBh]
    ·unfold bC;simp only[show oj.dst=some t from hd,yA8.2 ht,yBh,yBp]
  have rdK:∀k,k∈e.r∨k∈e.nw∨k∈yS e.d->zC (jE (eQ L) 0 R st).h k=zC (jE Li 0 R st).h k:=λk hk=>XD R 0 st st Z λj p hp hd=>by
   obtain⟨oj,ej,h1,h2,rfl⟩:=hR j p hp;rw[zZm];by_cases hji:j=i
   ·subst hji;simp only[Li];rw[hl];simp
   ·have hwj:k∈ej.fp.w:=by simp only[OT.fp,zYy];exact .inl hd
    have hki:k∈e.fp.w∨k∈e.fp.r:=by
     simp only[OT.fp,zYy]
     rcases hk with h|h|h
     ·exact .inr h
     ·exact .inl (.inr h)
     ·exact .inl (.inl h)
    refine hord j oj ej h1 h2 hji (λ_=>?_) λ_=>?_
    ·have:ej.fp.w.any (λk=>e.fp.w.contains k||e.fp.r.contains k)=true:=zZy.2 ⟨k,hwj,by simp only[yAo,yA8];exact hki⟩;unfold bC;simp only[this,yBp,yBh]
    ·rcases hki with h|h
     ·have:e.fp.w.any (λk=>ej.fp.w.contains k||ej.fp.r.contains k)=true:=zZy.2 ⟨k,h,by simp only[yAo,yA8];exact .inl hwj⟩;unfold bC;simp only[this,yBp,yBh]
     ·have:ej.fp.w.any (λk=>e.fp.r.contains k)=true:=zZy.2 ⟨k,hwj,yA8.2 h⟩;unfold bC;simp only[this,yBp]
  have hL':∀j,eQ (L.setIfInBounds i true) j=if j=i then true else eQ L j:=λj=>UZ L i j (by rw[hs];exact hin)
  have lookN:∀t,zG (jE (eQ (L.setIfInBounds i true)) 0 R st).tm t=if o.dst=some t then e.v else zG (jE (eQ L) 0 R st).tm t:=λt=>by
   by_cases hd:o.dst=some t
   ·rw[zX3 hd]
    have h1:zG (jE (eQ (L.setIfInBounds i true)) 0 R st).tm t=zG (jE (λj=>decide (j<i+1)) 0 R st).tm t:=TB R 0 st st Z λj p hp hdj=>by
     obtain⟨oj,ej,h1,h2,rfl⟩:=hR j p hp;rw[zZm,hL'];by_cases hji:j=i
     ·subst hji;simp
     ·have hdj':oj.dst=some t:=hdj;rw[zX2 hji,hord j oj ej h1 h2 hji (λ_=>by unfold bC;simp[hdj',hd]) (λ_=>by unfold bC;simp[hdj',hd])];by_cases h:j<i
      ·simp[h];omega
      ·simp[h];omega
    rw[h1,show(jE (λj=>decide (j<i+1)) 0 R st)=_ from hnext,TA,zX3 hd]
   ·rw[zX2 hd]
    exact TB R 0 st st Z λj p hp hdj=>by
     obtain⟨oj,ej,h1,h2,rfl⟩:=hR j p hp;rw[zZm,hL'];by_cases hji:j=i
     ·subst hji;rw[ho']at h1;cases h1;exact absurd hdj hd
     ·rw[zX2 hji]
  have lookEN:∀k,zC (jE (eQ (L.setIfInBounds i true)) 0 R st).h k=over e.d (zC (jE (eQ L) 0 R st).h) k:=λk=>by
   by_cases hd:k∈yS e.d
   ·have h1:zC (jE (eQ (L.setIfInBounds i true)) 0 R st).h k=zC (jE (λj=>decide (j<i+1)) 0 R st).h k:=XD R 0 st st Z λj p hp hdj=>by
     obtain⟨oj,ej,h1,h2,rfl⟩:=hR j p hp;rw[zZm,hL'];by_cases hji:j=i
     ·subst hji;simp
     ·have hwj:k∈ej.fp.w:=by simp only[OT.fp,zYy];exact .inl hdj
      have hwi:k∈e.fp.w:=by simp only[OT.fp,zYy];exact .inl hd
      have q1:ej.fp.w.any (λk=>e.fp.w.contains k||e.fp.r.contains k)=true:=zZy.2 ⟨k,hwj,by simp only[yAo,yA8];exact .inl hwi⟩;have q2:e.fp.w.any (λk=>ej.fp.w.contains k||ej.fp.r.contains k)=true:=zZy.2 ⟨k,hwi,by simp only[yAo,yA8];exact .inl hwj⟩;rw[zX2 hji,hord j oj ej h1 h2 hji (λ_=>by unfold bC;simp only[q1,yBp,yBh]) (λ_=>by unfold bC;simp only[q2,yBp,yBh])];by_cases h:j<i
      ·simp[h];omega
      ·simp[h];omega
    rw[h1,show(jE (λj=>decide (j<i+1)) 0 R st)=_ from hnext,XC];exact zC2 hd
   ·rw[DI hd]
    exact XD R 0 st st Z λj p hp hdj=>by
     obtain⟨oj,ej,h1,h2,rfl⟩:=hR j p hp;rw[zZm,hL'];by_cases hji:j=i
     ·subst hji;rw[he]at h2;cases h2;exact absurd hdj hd
     ·rw[zX2 hji]
  have hfin:∀a' w',VD F m (λt=>if o.dst=some t then e.v else zG (jE (eQ L) 0 R st).tm t) (over e.d (zC (jE (eQ L) 0 R st).h)) a' w'->K a' w':=λa' w' h=>by
   refine hK a' w' (.inl ⟨hcls L i o ⟨hs,hdn⟩ ho hpre,λj hj=>?_,h.congr lookN lookEN⟩);rw[hL',zX2 (by omega)];exact hge0 j hj
  have hexec:e.on=true->o.wpIn (DB F.ro) 0 P a w K QQ:=λhon=>
   (s4 hon).rel hRel (λt ht=>rdS t (by unfold zEu;simp[ht])) (λk hk=>rdK k (.inl hk)) (λk hk=>by rw[rdK k (.inr (.inl hk))];exact s3 k hk) s1 s2 hfin
  unfold wpOpIn;rw[ho];dsimp only
  cases hg:o.guard with
  |none=>
   rw[hg]at s6;rw[zX3 (by simp[Region.wanted,hg])];exact hexec s6
  | some jb=>
   obtain⟨j,b⟩:=jb;rw[hg]at s6;obtain⟨t,c,g1,g2,g3⟩:=s6;have htr:t∈zEu l.toArray o:=by unfold zEu gOf;simp[hg,g1]
   have hv:a.eval (.tmp t)=c:=by
    obtain⟨⟨_,β,_,_,Ht,_⟩,_⟩:=hRel;have:=Ht t;rw[rdS t htr,g2]at this;exact this.s_inv
   have hw:=aR hg g1 hv
   cases hon:e.on with
   |true=>
    rw[zX3 (by rw[hw,<-g3,hon])];exact hexec hon
   |false=>
    rw[zX2 (by rw[hw,<-g3,hon];simp)];obtain⟨v1,v2⟩:=s5 hon;refine⟨λ_ _=>trivial,hfin _ _ ?_⟩;rw[v1,v2];exact VD.bot hRel o.dst s2
 have main:∀(fuel:Nat) (L:Array Bool) (a:Act) (w:World),cnt (λi=>!eQ L i) l.toArray.size<=fuel->J L a w->wpAnyIn (DB F.ro) 0 P .any l.toArray QQ fuel L a w:=by
  intro fuel
  induction fuel with
  | zero=>
   intro L a w hf hJ
   have all:∀i,i<l.toArray.size->eQ L i=true:=by
    intro i hi
    cases hl:eQ L i with
    |true=>rfl
    |false=>
     exfalso;have h:=zC1 (p:=λj=>!eQ L j&&j != i) (q:=λj=>!eQ L j) l.toArray.size i hi zW (λj hj=>by simp[hj]);simp[hl]at h;simp at hf;omega
   refine⟨?_,hend L a w all hJ⟩
   cases hr:Region.ready .any l.toArray L with
   |nil=>rfl
   |cons i rest=>
    obtain⟨o,ho,hl,_⟩:=aA (hJ0 _ _ _ hJ).1 (i:=i) (by rw[hr];simp);rw[all i (yAq.1 ho).1]at hl;cases hl
  |succ fuel ih=>
   intro L a w hf hJ;refine⟨λhr=>hend L a w (λi hi=>zEt hA (hJ0 _ _ _ hJ).1 hr (i+1) i (by omega) hi) hJ,λi hi=>?_⟩;refine hstep L a w i hJ hi _ (λa' w' hJ'=>ih _ _ _ ?_ hJ');obtain⟨o,ho,hl,_⟩:=aA (hJ0 _ _ _ hJ).1 hi;have hin:i<l.toArray.size:=(yAq.1 ho).1;have h:=zC1 (p:=λj=>!eQ (L.setIfInBounds i true) j) (q:=λj=>!eQ L j) l.toArray.size i hin (by simp[UZ L i i (by rw[(hJ0 _ _ _ hJ).1];exact hin)]) (λj hj=>by simp[UZ L i j (by rw[(hJ0 _ _ _ hJ).1];exact hin),hj]);simp[hl]at h;simp at hf⊢;omega
 refine Code.wpIn_mono (λe a' w' ⟨he,s,h1,h2⟩=>⟨s,by rw[he];exact h1,h2⟩) (wpIn_region_any hm (main _ _ _ _ (zTo _ _) ?_))
 have hf:∀i,eQ (Array.replicate l.toArray.size false) i=false:=by
  intro i;unfold eQ;simp only[zY7,Array.getElem?_replicate]
  split<;>rfl
 refine .inl ⟨⟨by simp,λi o _ hl=>?_⟩,λi _=>hf i,?_⟩
 ·rw[hf]at hl;cases hl
 ·rw[TC R 0 st λj _=>hf _];obtain⟨⟨X,β,hX,HH,Ht,KK,hJ,hD⟩,nd,gs,hl⟩:=H;have G:=xK.drew HH (w.drawn+1);exact⟨⟨X,β,hX,G.hok,λt=>(Ht t).evo G.evo,KK.goes G nd (G.lives HH nd),λi hi=>F.go G (hJ i hi),hD.goes HH G⟩,nd,gs,hl⟩
def zJs {id:Nat} {l:List Oper} {st st':St} {es:List OT} {Q:Exit->St->Prop} (hm:P.follows .mixedOrders=true) (hT:Tr P m l.toArray l st es st') (hC:DJ l (MV l) (es.map OT.fp)=true) (hq:Q .normal st'):
  uQ P F m (.region id l.toArray true) st Q:=by
 refine LX l.length hm (by rw[zX6];exact hT) ?_ (by rw[yBs];exact λa w H=>⟨rfl,_,hq,H⟩);unfold VI;unfold DJ at hC;rw[hC,zYr,zYg,zYi];refine⟨yBw (zX7 _),λj hj=>?_⟩;rw[show Nat.blt j l.length=true from yBw (zYs.1 hj),yBh]
end
def zAr {P:Program} {TT:List TI} (h:(List.range TT.length).map (λt=>zJw P t)=TT.map some):uZ P TT:=λt ti ht=>by
 have hl:=(zYu.1 ht).1;have:=zY3 (·[t]?) h;simp only[zX8,ht,Option.map_some,zY5 hl]at this;simpa using this
def zWg (P:Program) {K0:List Nat} (F:Fr K0) (m:Nat) (ops:Array Oper):Bool->List Oper->St->List FP->(List FP->St->Prop)->Prop
 |false,l,st,_,Q=>GL P F m ops l st (Q [])
 |true,l,st,fs,Q=>∃es st',Tr P m ops l st es st'/\Q ((es.map OT.fp).reverse++fs) st'
structure yE (P:Program) {K0:List Nat} (F:Fr K0) (m:Nat) (ops:Array Oper) (dr:Bool) (l:List Oper) (st:St) (fs:List FP) (Q:List FP->St->Prop):Prop where
 run:zWg P F m ops dr l st fs Q
section
variable {P:Program} {K0:List Nat} {F:Fr K0} {m:Nat} {ops:Array Oper} {rest:List Oper} {Q:List FP->St->Prop} {tm:List (Nat×AV)} {h:List (Nat×xN)} {dr:Bool} {fs:List FP}
def uI {st:St} {Q':St->Prop} (hq:Q' st):yE P F m ops false [] st fs (λ_ s=>Q' s):=⟨zOq hq⟩
def eU {l:List Oper} {st:St} {Q':St->Prop} (hc:DJ l (MV l) fs.reverse=true) (hq:Q' st):yE P F m ops true [] st fs (λfs s=>DJ l (MV l) fs.reverse=true/\Q' s):=⟨⟨[],st,rfl,hc,hq⟩⟩
def IJ {o:Oper} {st st':St} {e:OT} (hon:e.on=true) (hg:o.guard=none) (hs:wV P st o.op e.v e.d e.r e.nw) (hn:∀k,k∈e.nw->zC st.h k=none) (hd:uG e.d=true) (hm:∀t,o.dst=some t->t<m)
  (he:st'=st.app o.dst e.v e.d) (hk:yE P F m ops dr rest st' (e.fp::fs) Q):yE P F m ops dr (o::rest) st fs Q:=by
 subst he
 cases dr with
 |false=>exact⟨zJq hg hs hn hd hm (λt=>TA _ _ _ _ _) (funext λk=>XC _ _ _ _ _) hk.run⟩
 |true=>
  obtain⟨es,st2,h1,h2⟩:=hk.run;refine⟨⟨e::es,st2,⟨⟨hd,hm,hn,(λ_=>hs),(λh=>by rw[hon]at h;cases h),by rw[hg];exact hon⟩,h1⟩,?_⟩⟩;simpa using h2
section
variable {op:Op} {ty:Nat} {pos:String} {after:Array Edge} {t:Nat} {v:AV} {r nw:List Nat}
def zP (hs:wV P ⟨tm,h⟩ op v [] r []) (hm:Nat.blt t m=true) (hk:yE P F m ops dr rest ⟨(t,v)::tm,h⟩ (⟨true,[],r⟩::fs) Q):yE P F m ops dr (⟨some t,op,ty,pos,after,none⟩::rest) ⟨tm,h⟩ fs Q:=
 IJ (e:=⟨true,v,[],r,[]⟩) Z Z hs zW Z (λj hj=>by cases hj;exact zYm hm) Z hk
def qE {k:Nat} {e:xN} (hs:wV P ⟨tm,h⟩ op v [(k,e)] r nw) (hm:Nat.blt t m=true) (hn:nw.all (λj=>(zC h j).isNone)=true) (hd:uG [(k,e)]=true) (hk:yE P F m ops dr rest ⟨(t,v)::tm,(k,e)::h⟩ (⟨true,k::nw,r⟩::fs) Q):
  yE P F m ops dr (⟨some t,op,ty,pos,after,none⟩::rest) ⟨tm,h⟩ fs Q:=
 IJ (e:=⟨true,v,[(k,e)],r,nw⟩) Z Z hs (λj hj=>by have:=zYi.1 hn j hj;simpa using this) hd (λj hj=>by cases hj;exact zYm hm) Z hk
def x_s {k:Nat} {e:xN} (hs:wV P ⟨tm,h⟩ op v [(k,e)] r nw) (hn:nw.all (λj=>(zC h j).isNone)=true) (hd:uG [(k,e)]=true) (hk:yE P F m ops dr rest ⟨tm,(k,e)::h⟩ (⟨true,k::nw,r⟩::fs) Q):yE P F m ops dr (⟨none,op,ty,pos,after,none⟩::rest) ⟨tm,h⟩ fs Q:=
 IJ (e:=⟨true,v,[(k,e)],r,nw⟩) Z Z hs (λj hj=>by have:=zYi.1 hn j hj;simpa using this) hd (λj hj=>by cases hj) Z hk
def ZJ {d:List (Nat×xN)} (hs:wV P ⟨tm,h⟩ op v d r nw) (hm:Nat.blt t m=true) (hn:nw.all (λj=>(zC h j).isNone)=true) (hd:uG d=true) (hk:yE P F m ops dr rest ⟨(t,v)::tm,d++h⟩ (⟨true,yS d++nw,r⟩::fs) Q):
  yE P F m ops dr (⟨some t,op,ty,pos,after,none⟩::rest) ⟨tm,h⟩ fs Q:=
 IJ (e:=⟨true,v,d,r,nw⟩) Z Z hs (λj hj=>by have:=zYi.1 hn j hj;simpa using this) hd (λj hj=>by cases hj;exact zYm hm) Z hk
end
theorem DH.on {P:Program} {m:Nat} {ops:Array Oper} {d:Option Nat} {op:Op} {ty:Nat} {pos:String} {after:Array Edge} {j t:Nat} {b:Bool} {st:St} {e:OT} (ht:UV ops j=some t) (hv:zG st.tm t= .s (.bool b)) (hs:DH P m ops ⟨d,op,ty,pos,after,none⟩ st e):
  DH P m ops ⟨d,op,ty,pos,after,some (j,b)⟩ st e:=by
 obtain⟨h1,h2,h3,h4,h5,h6⟩:=hs;exact⟨h1,h2,h3,h4,h5,t,.bool b,ht,hv,by rw[show e.on=true from h6];simp[gw]⟩
def IK {d:Option Nat} {op:Op} {ty:Nat} {pos:String} {after:Array Edge} {j t:Nat} {b:Bool} {st:St} (ht:UV ops j=some t) (hv:zG st.tm t= .s (.bool b)) (hk:yE P F m ops dr (⟨d,op,ty,pos,after,none⟩::rest) st fs Q):
  yE P F m ops dr (⟨d,op,ty,pos,after,some (j,b)⟩::rest) st fs Q:=by
 cases dr with
 |false=>exact⟨zTn ht hv hk.run⟩
 |true=>
  obtain⟨es,st2,h1,h2⟩:=hk.run
  cases es with
  |nil=>exact h1.elim
  |cons e es=>exact⟨⟨e::es,st2,⟨h1.1.on ht hv,h1.2⟩,h2⟩⟩
def TE {d:Nat} {op:Op} {ty:Nat} {pos:String} {after:Array Edge} {j t:Nat} {b:Bool} {c:Value} (ht:UV ops j=some t) (hv:zG tm t= .s c) (hc:gw c b=false) (hm:Nat.blt d m=true) (hk:yE P F m ops dr rest ⟨(d,.s undef)::tm,h⟩ (⟨false,[],[]⟩::fs) Q):
  yE P F m ops dr (⟨some d,op,ty,pos,after,some (j,b)⟩::rest) ⟨tm,h⟩ fs Q:=by
 cases dr with
 |false=>exact⟨zOr ht hv hc hm hk.run⟩
 |true=>
  obtain⟨es,st2,h1,h2⟩:=hk.run;refine⟨⟨⟨false,.s undef,[],[],[]⟩::es,st2,⟨⟨rfl,(λj hj=>by cases hj;exact zYm hm),by simp,(λh=>by cases h),(λ_=>⟨rfl,rfl⟩),t,c,ht,hv,hc.symm⟩,h1⟩,?_⟩⟩;rw[zZj,List.reverse_cons,zYw];exact h2
def zOt {st:St} {l:List Oper} {t:Nat} {c:Bool} (hv:zG st.tm t= .s (.bool c)) (h1:c=true->yE P F m ops false l ⟨(t,.s (.bool true))::st.tm,st.h⟩ fs Q) (h2:c=false->yE P F m ops false l ⟨(t,.s (.bool false))::st.tm,st.h⟩ fs Q):yE P F m ops false l st fs Q:=⟨zEr hv (λh=>(h1 h).run) (λh=>(h2 h).run)⟩
def kO {d:Option Nat} {op:Op} {ty:Nat} {pos:String} {after:Array Edge} {j t:Nat} {b c:Bool} (ht:UV ops j=some t) (hv:zG tm t= .s (.bool c)) (h1:c=true->yE P F m ops false (⟨d,op,ty,pos,after,some (j,b)⟩::rest) ⟨(t,.s (.bool true))::tm,h⟩ fs Q) (h2:c=false->yE P F m ops false (⟨d,op,ty,pos,after,some (j,b)⟩::rest) ⟨(t,.s (.bool false))::tm,h⟩ fs Q):
  yE P F m ops false (⟨d,op,ty,pos,after,some (j,b)⟩::rest) ⟨tm,h⟩ fs Q:=by
 have:=ht;exact zOt (st:=⟨tm,h⟩) hv h1 h2
section
variable {ty t:Nat} {pos:String} {after:Array Edge} {st:St} {g:Option (Nat×Bool)} {d:Option Nat}
def xJ {c:Operand} {asq:Array Operand} {ts:Array Nat} (hk:yE P F m ops dr (⟨some t,(.call ⟨.value c,asq,ts⟩),ty,pos,after,none⟩::rest) st fs Q):yE P F m ops dr (⟨some t,(.call ⟨.value c,asq,ts⟩),ty,pos,after,none⟩::rest) st fs Q:=hk
def xM {op:BinOp} {tx t2:Nat} {x y:Operand} (hk:yE P F m ops dr (⟨some t,(.binOp op tx x y t2),ty,pos,after,none⟩::rest) st fs Q):yE P F m ops dr (⟨some t,(.binOp op tx x y t2),ty,pos,after,none⟩::rest) st fs Q:=hk
def aS {tx:Nat} {x y:Operand} (hk:yE P F m ops dr (⟨some t,(.indexAddr tx x y),ty,pos,after,none⟩::rest) st fs Q):yE P F m ops dr (⟨some t,(.indexAddr tx x y),ty,pos,after,none⟩::rest) st fs Q:=hk
def dJ {tx:Nat} {x:Operand} (hk:yE P F m ops dr (⟨some t,(.load tx x),ty,pos,after,none⟩::rest) st fs Q):yE P F m ops dr (⟨some t,(.load tx x),ty,pos,after,none⟩::rest) st fs Q:=hk
def aT {tx n:Nat} {x:Operand} (hk:yE P F m ops dr (⟨some t,(.fieldAddr tx x n),ty,pos,after,none⟩::rest) st fs Q):yE P F m ops dr (⟨some t,(.fieldAddr tx x n),ty,pos,after,none⟩::rest) st fs Q:=hk
def gC {tx:Nat} {x y:Operand} (hk:yE P F m ops dr (⟨none,(.store tx x y),ty,pos,after,none⟩::rest) st fs Q):yE P F m ops dr (⟨none,(.store tx x y),ty,pos,after,none⟩::rest) st fs Q:=hk
def fI {op:Op} {j:Nat} {b:Bool} (hk:yE P F m ops dr (⟨d,op,ty,pos,after,some (j,b)⟩::rest) st fs Q):yE P F m ops dr (⟨d,op,ty,pos,after,some (j,b)⟩::rest) st fs Q:=hk
def zE {l:List Oper} (hk:yE P F m ops dr l st fs Q):yE P F m ops dr l st fs Q:=hk
end
def xC {Q:Exit->St->Prop} {id:Nat} {l:List Oper} {st:St} (hk:yE P F m l.toArray false l st [] (λ_ s=>Q .normal s)):uQ P F m (.region id l.toArray false) st Q:=zAp hk.run
def vQ {Q:Exit->St->Prop} {id:Nat} {l:List Oper} {st:St} (hm:P.follows .mixedOrders=true) (hk:yE P F m l.toArray true l st [] (λfs s=>DJ l (MV l) fs.reverse=true/\Q .normal s)):uQ P F m (.region id l.toArray true) st Q:=by
 obtain⟨es,st2,h1,h2,h3⟩:=hk.run;exact zJs hm h1 KD h3
end
end Av
end Go.Proofs.YteajjdidebfcjaaGreat
