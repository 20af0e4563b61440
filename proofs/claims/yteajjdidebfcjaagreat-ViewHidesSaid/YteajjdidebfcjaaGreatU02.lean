/- Part 2. -/
import Derived.Test.YteajjdidebfcjaaGreatU01
import Derived.Tactics
import Derived.Deep.LoopGhost
import Derived.TacticsIn
import Derived.OrdersIn
import Derived.RangeFuncCalls
import Derived.RangeFuncRecord
import Derived.LoopIn
import Derived.RangeFuncLeaves
import Derived.Orders
namespace Go.Proofs.YteajjdidebfcjaaGreat
namespace Av
set_option linter.all false
section
def Own (β:uG) (b:Nat):Prop:=∃k n,(b,n)∈β k
abbrev GS:Nat:=1000000
def DJ (ro:Option Nat):Fence:={Fence.wide with round:=ro}
structure Fr (K0:List Nat) where
 X:Nat->Prop
 w0:World
 β0:uG
 h0:yG
 hK:∀k b n,(b,n)∈β0 k->k∈K0
 hh:∀k e,h0 k=some e->k∈K0
 ro:Option Nat
 it:Bool
 V:Nat->Prop
 J:Nat->(Nat->Prop)->(Nat->Prop)->World->Prop
 Jst:∀i O X w w' O',J i O X w->w.heap.size<=w'.heap.size->(∀b,b<w.heap.size->¬O b->w'.heap[b]? =w.heap[b]?)->(∀b,O' b->O b∨w.heap.size<=b)->(∀b,O' b->b<w'.heap.size)->w'.os=w.os->w'.tape=w.tape->w'.output=w.output->J i O' X w'
def zZl (h:yG) (k:Nat):xO->Prop
 | .box _=>∃cs,h k=some (.box cs)
 | .obj _=>∃cs,h k=some (.obj cs)
 | .arr sz xs _=>∃xs' st,h k=some (.arr sz xs' st)/\xs.length<=xs'.length
 | .dead=>False
variable {K0:List Nat}
structure gH (F:Fr K0) (h:yG) (β:uG) (w:World):Prop where
 knd:∀k e,F.h0 k=some e->zZl h k e
 size:F.w0.heap.size<=w.heap.size
 keep:∀b,b<F.w0.heap.size->¬F.V b->(∀k n,(b,n)∉F.β0 k)->w.heap[b]? =F.w0.heap[b]?
 own:∀k b n,(b,n)∈β k->(∃k' n',(b,n')∈F.β0 k')∨F.w0.heap.size<=b
 pas:∀k b n,(b,n)∈F.β0 k->∃n',n<=n'/\(b,n')∈β k
 bs:∀k b n,(b,n)∈F.β0 k->wH w b=wH F.w0 b
 os:w.os=F.w0.os
 tape:w.tape=F.w0.tape
 output:w.output=F.w0.output
def vT:List (Nat×xO)->Bool
 | []=>true
 |(_,.dead)::_=>false
 |_::r=>vT r
theorem uV:∀{d:List (Nat×xO)} {k:Nat},vT d=true->zD d k≠some .dead
 | [],k,_=>by simp[zD]
 |(j,e)::r,k,h=>by
  unfold zD
  cases e with
  |dead=>simp[vT]at h
  |box cs=>cases Nat.beq k j<;>simp;exact uV (by simpa [vT]using h)
  |obj cs=>cases Nat.beq k j<;>simp;exact uV (by simpa [vT]using h)
  |arr a b c=>cases Nat.beq k j<;>simp;exact uV (by simpa [vT]using h)
def zSk (β β':uG):Prop:=∀k b n,(b,n)∈β k->∃n',n<=n'/\(b,n')∈β' k
theorem xN.lives {X:Nat->Prop} {w w':World} {h h':yG} {β β':uG} (H:jA X h β w) (G:xN X w h β w' h' β') (hd:∀k,h' k≠some .dead):zSk β β':=by
 intro k b n hm
 cases he:h k with
 |none=>rw[H.off k he]at hm;simp at hm
 | some e=>
  rcases G.key k e he with h1|h1
  ·exact absurd h1 (hd k)
  ·cases e with
   |dead=>exact h1.elim
   |box cs=>exact⟨n,yAg _,h1.2 b n hm⟩
   |obj cs=>exact⟨n,yAg _,h1.2 b n hm⟩
   |arr sz xs st=>exact h1.2 b n hm
theorem gH.goes {F:Fr K0} {X:Nat->Prop} {β β':uG} {w w':World} {h h':yG} (K:gH F h β w) (G:xN X w h β w' h' β') (nd:∀k,h' k≠some .dead) (hl:zSk β β'):gH F h' β' w' where
 knd k e he:=by
  have h1:=K.knd k e he
  cases e with
  |dead=>exact h1
  |box cs=>
   obtain⟨cs',h2⟩:=h1;exact((G.key k _ h2).resolve_left (nd k)).1
  |obj cs=>
   obtain⟨cs',h2⟩:=h1;exact((G.key k _ h2).resolve_left (nd k)).1
  |arr sz xs st=>
   obtain⟨xs',st',h2,h3⟩:=h1;obtain⟨xs'',st'',h4,h5⟩:=((G.key k _ h2).resolve_left (nd k)).1;exact⟨xs'',st'',h4,yBn h3 h5⟩
 size:=yBn K.size G.size
 keep b hb hi hn:=by
  rw[G.keep b (yBo hb K.size),K.keep b hb hi hn];intro k n hm
  rcases K.own k b n hm with⟨k',n',h1⟩|h1
  ·exact hn _ _ h1
  ·omega
 own k b n hm:=by
  rcases G.own k b n hm with⟨k',n',h1⟩|h1
  ·exact K.own k' b n' h1
  ·exact .inr (yBn K.size h1)
 pas k b n hm:=by
  obtain⟨n',h1,h2⟩:=K.pas k b n hm;obtain⟨n'',h3,h4⟩:=hl k b n' h2;exact⟨n'',yBn h1 h3,h4⟩
 bs k b n hm:=by
  obtain⟨n',_,h2⟩:=K.pas k b n hm;rw[G.bs k b n' h2,K.bs k b n hm]
 os:=G.os.trans K.os
 tape:=G.tape.trans K.tape
 output:=G.output.trans K.output
def DOK (X:Nat->Prop) (F:Fr K0) (ds:List Deferred) (w:World):Prop:=
 ∃bs:List Nat,ds=bs.map (λb=>{target:= .collected b,args:= #[]})/\(F.it=true->bs=[])/\bs.Nodup/\∀b,b∈bs->X b/\F.w0.heap.size<=b/\w.heap[b]? =some (.deferred (some []))
theorem DOK.goes {X:Nat->Prop} {F:Fr K0} {ds:List Deferred} {w w':World} {h h':yG} {β β':uG} (H:jA X h β w) (D:DOK X F ds w) (G:xN X w h β w' h' β'):DOK X F ds w':=by
 obtain⟨bs,h1,h0,h2,h3⟩:=D;refine⟨bs,h1,h0,h2,λb hb=>?_⟩;obtain⟨q1,q2,q3⟩:=h3 b hb;exact⟨q1,q2,by rw[G.keep b (H.lt b (.inl q1)) λk n hm=>H.free k b n hm q1];exact q3⟩
theorem Fr.go {F:Fr K0} {X:Nat->Prop} {w w':World} {h h':yG} {β β':uG} {i:Nat} (G:xN X w h β w' h' β') (hj:F.J i (Own β) X w):F.J i (Own β') X w':=
 F.Jst i _ X w w' _ hj G.size (λb hb hn=>G.keep b hb λk n hm=>hn ⟨k,n,hm⟩) (λb ⟨k,n,hm⟩=>(G.own k b n hm).imp (λ⟨k',n',h⟩=>⟨k',n',h⟩) id) (λb ⟨k,n,hm⟩=>G.hok.lt b (.inr ⟨k,n,hm⟩)) G.os G.tape G.output
def XOK (F:Fr K0) (X:Nat->Prop):Prop:=(∀b,F.X b->X b)/\∀b,X b->F.X b∨F.w0.heap.size<=b
structure VG (F:Fr K0) (m:Nat) (tm:Nat->AV) (h:yG) (a:Act) (w:World):Prop where
 ex:∃X β,XOK F X/\jA X h β w/\(∀t,zY w (xP X β) h β (tm t) (a.eval (.tmp t)))/\gH F h β w/\(∀i,tm GS= .gh i->F.J i (Own β) X w)/\DOK X F a.defers w
 nd:∀k,h k≠some .dead
 gs:m<=GS
 len:a.tmps.size=m
def wN (F:Fr K0) (m:Nat) (st:St):Act->World->Prop:=VG F m (zG st.tm) (zD st.h)
def yT (t:Nat) (v:AV) (tm:List (Nat×AV)) (j:Nat):zG ((t,v)::tm) j=if j=t then v else zG tm j:=by
 conv=>lhs;unfold zG
 by_cases h:j=t
 ·subst h;simp
 ·rw[yAc h,XG h];rfl
def xI (t:Nat) (v:xO) (tm:List (Nat×xO)) (j:Nat):zD ((t,v)::tm) j=if j=t then some v else zD tm j:=by
 conv=>lhs;unfold zD
 by_cases h:j=t
 ·subst h;simp
 ·rw[yAc h,XG h];rfl
theorem wY:∀(d h:List (Nat×xO)),zD (d++h)=over d (zD h)
 | [],_=>rfl
 |(k,e)::r,h=>by
  funext j
  have ih:=congrFun (wY r h) j;simp only[yC5,over,xI]at *; split
  ·rfl
  ·exact ih
theorem aN.wp {P:Program} {ro:Option Nat} {o:Oper} {a:Act} {w:World} {K:Act->World->Prop} {Q:Exit->Act->World->Prop} {N:Value->World->Prop} (hd:aN P N ((execOp a.eval o).run P w)) (h:∀c w',N c w'->K (a.put o.dst c) w'):o.wpIn (DJ ro) 0 P a w K Q:=by
 have hs:(o.semAt (DJ ro).round a.eval).run P w=(execOp a.eval o).run P w:=by
  show(o.semAt ro a.eval).run P w=_
  cases ro with
  |none=>rfl
  | some l=>
   by_cases hdf:∃c,o.op= .defer c
   ·exfalso;obtain⟨c,hc⟩:=hdf;revert hd;unfold execOp;rw[hc];simp only[Sem.run_bind]
    cases (resolve a.eval c o.type).run P w<;>simp[Result.andThen,aN]
   ·rw[Oper.semAt_some l _ _ λc hc=>hdf ⟨c,hc⟩]
 refine⟨λ_ _=>trivial,?_⟩;rw[hs];generalize (execOp a.eval o).run P w=r at hd
 cases r with
 |halt x w'=>exact hd.elim
 | ok n w'=>
  cases n with
  |value c=>exact h _ _ hd
  |skip=>exact h _ _ hd
  |enter f args=>
   refine⟨λhx=>by simp[DJ,Fence.wide]at hx,?_⟩;exact callsIn_wide.2 (Calls.mono hd λe w'' ⟨c,he,hn⟩=>by subst he;exact h _ _ hn)
  |_=>exact hd.elim
theorem VG.put {F:Fr K0} {X:Nat->Prop} {m:Nat} {tm:Nat->AV} {h h':yG} {a:Act} {w w':World} {β β':uG} (hX:XOK F X) (H:jA X h β w) (hv:∀t,zY w (xP X β) h β (tm t) (a.eval (.tmp t))) (K:gH F h β w) (hJ:∀i,tm GS= .gh i->F.J i (Own β) X w) (hd:DOK X F a.defers w) (gs:m<=GS) (hl:a.tmps.size=m)
  (G:xN X w h β w' h' β') (nd:∀k,h' k≠some .dead) {v:AV} {c:Value} (hc:zY w' (xP X β') h' β' v c) (dst:Option Nat) (hm:∀d,dst=some d->d<m):
  VG F m (λt=>if dst=some t then v else tm t) h' (a.put dst c) w':=by
 refine⟨⟨X,β',hX,G.hok,λt=>?_,K.goes G nd (G.lives H nd),λi hi=>?_,by have:=hd.goes H G;cases dst<;>exact this⟩,nd,gs,by cases dst<;>simp[Act.put,hl]⟩
 ·split
  ·rename_i ht;subst ht;have:t<a.tmps.size:=by rw[hl];exact hm t Z
   have e:(a.put (some t) c).eval (.tmp t)=c:=by simp[Act.put,Act.eval,this]
   rw[e];exact hc
  ·rename_i ht;rw[Act.eval_put (λd hd e=>ht (by rw[hd];injection e with e;rw[e]))];exact(hv t).evo G.evo
 ·rw[yAc (λe=>by have:=hm GS e;omega)]at hi;exact F.go G (hJ i hi)
theorem wS.rel {P:Program} {st:St} {o:Oper} {v:AV} {d:List (Nat×xO)} {r nw:List Nat} (hs:wS P st o.op v d r nw) {F:Fr K0} {m:Nat} {tm:Nat->AV} {h:yG} {a:Act} {w:World} (H:VG F m tm h a w)
  (h1:∀t,t∈fV o.op->tm t=zG st.tm t) (h2:∀k,k∈r->h k=zD st.h k) (h3:∀k,k∈nw->h k=none) (hd:vT d=true) (hm:∀t,o.dst=some t->t<m) {K:Act->World->Prop} {Q:Exit->Act->World->Prop}
  (hK:∀a' w',VG F m (λt=>if o.dst=some t then v else tm t) (over d h) a' w'->K a' w'):o.wpIn (DJ F.ro) 0 P a w K Q:=by
 obtain⟨⟨X,β,hX,HH,Ht,KK,hJ,hD⟩,nd,gs,hl⟩:=H;refine aN.wp (hs.run X tm h h1 h2 h3 o a w β rfl HH Ht) ?_;rintro c w' ⟨β',G,hc⟩
 have nd':∀k,over d h k≠some .dead:=λk=>by
  unfold over;split
  ·rename_i e he;intro h4;cases h4;exact uV hd he
  ·exact nd k
 exact hK _ _ (VG.put hX HH Ht KK hJ hD gs hl G nd' hc o.dst hm)
def QX {F:Fence} {n:Nat} {P:Program} {Q:Exit->Act->World->Prop} {a:Act} {w:World} {c:Code} (I:Nat->Act->World->Prop) (n₀:Nat) (h₀:I n₀ a w)
  (round:∀k a w,I k a w->c.wpIn F n P (Exit.then (λa' w'=>∃k',k'<k/\I k' a' w') Q) a w):(Code.loop c).wpIn F n P Q a w:=by
 refine wpIn_loop (λa w=>∃k,I k a w) (λa w=>leastOf (λk=>I k a w)) ⟨n₀,h₀⟩ ?_;intro a w hI;refine wpIn_mono (round _ a w (leastOf_spec hI).1) ?_;intro e a' w' hq
 cases e with
 |normal=>
  obtain⟨n',hlt,hI'⟩:=hq;exact show(∃n,I n a' w')/\leastOf (λn=>I n a' w')<leastOf (λn=>I n a w)from⟨⟨n',hI'⟩,Nat.lt_of_le_of_lt ((leastOf_spec ⟨n',hI'⟩).2 n' hI') hlt⟩
 |_=>exact hq
structure vZ (P:Program) (F:Fr K0) (m:Nat) (c:Code) (st:St) (Q:Exit->St->Prop):Prop where
 run:∀a w,wN F m st a w->c.wpIn (DJ F.ro) 0 P (λe a' w'=>∃st',Q e st'/\wN F m st' a' w') a w
def FJ (P:Program) (F:Fr K0) (m:Nat) (ops:Array Oper) (l:List Oper) (st:St) (Q:St->Prop):Prop:=
 ∀a w,wN F m st a w->wpListIn (DJ F.ro) 0 P ops (λe a' w'=>e= .normal/\∃st',Q st'/\wN F m st' a' w') l a w
section
variable {P:Program} {F:Fr K0} {m:Nat} {Q:Exit->St->Prop} {st:St}
theorem vZ.mono {c:Code} {Q':Exit->St->Prop} (h:vZ P F m c st Q) (hq:∀e s,Q e s->Q' e s):vZ P F m c st Q':=
 ⟨λa w H=>Code.wpIn_mono (λ_ _ _ ⟨s,h1,h2⟩=>⟨s,hq _ _ h1,h2⟩) (h.run a w H)⟩
def xA (h:Q .normal st):vZ P F m .skip st Q:=⟨λ_ _ H=>wpIn_skip ⟨st,h,H⟩⟩
def yW (h:Q .ret st):vZ P F m .ret st Q:=⟨λ_ _ H=>wpIn_ret ⟨st,h,H⟩⟩
def xD {id:Nat} (h:Q (.exit id) st):vZ P F m (.exit id) st Q:=⟨λ_ _ H=>wpIn_exit ⟨st,h,H⟩⟩
def XZ (P:Program) (F:Fr K0) (m:Nat) (y:Code) (Q:Exit->St->Prop):Exit->St->Prop
 | .normal,s=>vZ P F m y s Q
 |e,s=>Q e s
def xQ {x y:Code} (h:vZ P F m x st (XZ P F m y Q)):vZ P F m (.seq x y) st Q:=⟨λa w H=>
 wpIn_seq (Code.wpIn_mono (λe a' w' ⟨s,h1,h2⟩=>by
  cases e with
  |normal=>exact vZ.run h1 a' w' h2
  |_=>exact⟨s,h1,h2⟩) (h.run a w H))⟩
def xK {c:Operand} {x y:Code} {t:Bool} (hc:yO (zG st.tm) c= .s (.bool t)) (h1:t=true->vZ P F m x st Q) (h2:t=false->vZ P F m y st Q):vZ P F m (.cond c x y) st Q:=⟨λa w H=>by
 have hv:a.eval c= .bool t:=by
  obtain⟨⟨_,β,_,_,Ht,_⟩,_⟩:=H;have:=PV Ht c;rw[hc]at this;exact this.s_inv
 exact wpIn_cond_split hv (λh=>(h1 h).run a w H) (λh=>(h2 h).run a w H)⟩
def zX {c:Operand} {x y:Code} (hc:yO (zG st.tm) c= .s (.bool true)) (h:vZ P F m x st Q):vZ P F m (.cond c x y) st Q:=xK hc (λ_=>h) (λh=>by cases h)
def zU {c:Operand} {x y:Code} (hc:yO (zG st.tm) c= .s (.bool false)) (h:vZ P F m y st Q):vZ P F m (.cond c x y) st Q:=xK hc (λh=>by cases h) (λ_=>h)
def inB (id:Nat) (Q:Exit->St->Prop):Exit->St->Prop
 | .exit id',s=>bif Nat.beq id' id then Q .normal s else Q (.exit id') s
 |e,s=>Q e s
def yU {id:Nat} {c:Code} (h:vZ P F m c st (inB id Q)):vZ P F m (.block id c) st Q:=⟨λa w H=>
 wpIn_block (Code.wpIn_mono (λe a' w' ⟨s,h1,h2⟩=>by
  cases e with
  |exit id'=>
   simp only[Exit.inBlock];split
   ·rename_i he;subst he;simp only[inB,zFu,yBx]at h1;exact⟨s,h1,h2⟩
   ·rename_i he;simp only[inB,XG he,yCg]at h1;exact⟨s,h1,h2⟩
  |_=>exact⟨s,h1,h2⟩) (h.run a w H))⟩
def zA9 {id:Nat} {l:List Oper} (h:FJ P F m l.toArray l st (Q .normal)):vZ P F m (.region id l.toArray false) st Q:=⟨λa w H=>
 Code.wpIn_mono (λe a' w' ⟨he,s,h1,h2⟩=>by subst he;exact⟨s,h1,h2⟩) (wpIn_region_lit (h a w H))⟩
end
end
mutual
def AV.refs:AV->List Nat
 | .ref k _ _| .ptr k _ _=>[k]
 | .agg cs| .fn _ cs| .tup cs=>jG cs
 |_=>[]
def jG:List AV->List Nat
 | []=>[]
 |v::r=>v.refs++jG r
end
mutual
def AV.nosl:AV->Bool
 | .sl _ _| .slc _ _| .fp _ _ _| .fm _ _=>false
 | .agg cs| .fn _ cs| .tup cs=>NM cs
 |_=>true
def NM:List AV->Bool
 | []=>true
 |v::r=>v.nosl&&NM r
end
mutual
def qC (K:List Nat) (h:yG):AV->AV
 | .ref k off len=>bif K.contains k then .ref k off len else match h k with
  |some (.arr _ xs fl)=>bif fl.nest then .bot else .sl false ((xs.drop off).take len)
  |_=> .bot
 | .ptr k i off=>bif K.contains k then .ptr k i off else .bot
 | .agg cs=> .agg (wQ K h cs)
 | .fn f cs=> .fn f (wQ K h cs)
 | .tup cs=> .tup (wQ K h cs)
 |v=>v
def wQ (K:List Nat) (h:yG):List AV->List AV
 | []=>[]
 |v::r=>qC K h v::wQ K h r
end
mutual
def wP (K:List Nat) (h:yG):AV->AV
 | .ref k off len=>bif K.contains k then .ref k off len else match h k with
  |some (.arr _ xs fl)=>bif fl.nest then(bif wG (wQ K h xs)then .sl false (((wQ K h xs).drop off).take len)else .bot)else .sl false ((xs.drop off).take len)
  |_=> .bot
 | .ptr k i off=>bif K.contains k then .ptr k i off else .bot
 | .agg cs=> .agg (uY K h cs)
 | .fn f cs=> .fn f (uY K h cs)
 | .tup cs=> .tup (uY K h cs)
 |v=>v
def uY (K:List Nat) (h:yG):List AV->List AV
 | []=>[]
 |v::r=>wP K h v::uY K h r
end
mutual
def VH:AV->AV
 | .s v=>match v with
  | .slice none 0 0=> .sl false []
  |v=> .s v
 | .sl _ xs=> .sl false xs
 | .agg cs=> .agg (wkL cs)
 | .fn f cs=> .fn f (wkL cs)
 | .tup cs=> .tup (wkL cs)
 |v=>v
def wkL:List AV->List AV
 | []=>[]
 |v::r=>VH v::wkL r
end
theorem wR:∀{cs:List AV} {i:Nat} {v:AV} {k:Nat},cs[i]? =some v->k∈v.refs->k∈jG cs
 | [],_,_,_,h,_=>by simp at h
 |x::r,0,v,k,h,hk=>by simp at h;subst h;simp[jG,hk]
 |x::r,i+1,v,k,h,hk=>by simp[jG,wR (show r[i]? =some v by simpa using h) hk]
theorem fK:∀{cs:List AV} {i:Nat} {v:AV},NM cs=true->cs[i]? =some v->v.nosl=true
 | [],_,_,_,h=>by simp at h
 |x::r,0,v,hk,h=>by simp at h;subst h;simp[NM]at hk;exact hk.1
 |x::r,i+1,v,hk,h=>by simp[NM]at hk;exact fK hk.2 TJ
theorem aL (K:List Nat) (h:yG):∀(cs:List AV) (i:Nat),(uY K h cs)[i]? =(cs[i]?).map (wP K h)
 | [],i=>by simp[uY]
 |x::r,0=>by simp[uY]
 |x::r,i+1=>by simp[uY,aL K h r i]
theorem bK (K:List Nat) (h:yG):∀(cs:List AV) (i:Nat),(wQ K h cs)[i]? =(cs[i]?).map (qC K h)
 | [],i=>by simp[wQ]
 |x::r,0=>by simp[wQ]
 |x::r,i+1=>by simp[wQ,bK K h r i]
theorem qV (K:List Nat) (h:yG):∀(cs:List AV),(wQ K h cs).length=cs.length
 | []=>rfl
 |x::r=>by simp[wQ,qV K h r]
def ZV {v:AV} (h:v.isAgg=false):v.cells=[v]:=by cases v<;>first|rfl|(simp[AV.isAgg]at h)
def NN (K:List Nat) (h:yG) (x:AV):(qC K h x).cells=wQ K h x.cells:=by
 cases x with
 |agg cs=>rfl
 | ref k off len=>
  refine ZV ?_;unfold qC
  cases K.contains k with
  |true=>rfl
  | false=>
   simp only[yCg]
   rcases h k with _|(_|⟨_,_,fl⟩|_|_)
   ·rfl
   ·rfl
   ·dsimp only
    cases fl.nest<;>rfl
   ·rfl
   ·rfl
 |ptr k i off=>refine ZV ?_;unfold qC;cases K.contains k<;>rfl
 |_=>rfl
def NP (K:List Nat) (h:yG) (x:AV):(wP K h x).cells=uY K h x.cells:=by
 cases x with
 |agg cs=>rfl
 | ref k off len=>
  refine ZV ?_;unfold wP
  cases K.contains k with
  |true=>rfl
  | false=>
   simp only[yCg]
   rcases h k with _|(_|⟨_,xs,fl⟩|_|_)
   ·rfl
   ·rfl
   ·dsimp only
    cases fl.nest with
    |false=>rfl
    |true=>
     simp only[yBx]
     cases wG (wQ K h xs)<;>rfl
   ·rfl
   ·rfl
 |ptr k i off=>refine ZV ?_;unfold wP;cases K.contains k<;>rfl
 |_=>rfl
def QK {x:AV} (h:x.nokey=true):wG x.cells=true:=by
 by_cases ha:x.isAgg=true
 ·cases x<;>first
   |exact h
   |(simp[AV.isAgg]at ha)
 ·rw[ZV (by simpa using ha)];simp[wG,h]
theorem vU (K:List Nat) (h:yG):∀(cs:List AV),(uY K h cs).length=cs.length
 | []=>rfl
 |x::r=>by simp[uY,vU K h r]
theorem zBa:∀(cs:List AV) (i:Nat),(wkL cs)[i]? =(cs[i]?).map VH
 | [],i=>by simp[wkL]
 |x::r,0=>by simp[wkL]
 |x::r,i+1=>by simp[wkL,zBa r i]
theorem dM:∀(cs:List AV),(wkL cs).length=cs.length
 | []=>rfl
 |x::r=>by simp[wkL,dM r]
theorem zDi:∀cs:List AV,wkL cs=cs.map VH
 | []=>rfl
 |x::r=>by simp[wkL,zDi r]
theorem xH.wk {w:World} {D:Nat->Prop}:∀{v:AV} {c:Value},xH w D v c->xH w D (VH v) c:=by
 intro v c hv
 induction hv with
 |bot c=>exact .bot c
 |gh n c=>exact .gh n c
 |s v=>
  unfold VH;split
  ·exact .nil _ _
  ·exact .s _
 | agg cs c hl h1 _ ih=>
  exact .agg _ c (by rw[dM];exact hl) h1 λi v hv=>by
   rw[zBa,yAq]at hv;obtain⟨u,hu,rfl⟩:=hv;exact ih i u hu
 |nil a cap=>exact .nil _ _
 |nil1 a cap=>exact .nil _ _
 |sl nn xs b o sz cap f hx hL hc hh _=>exact .sl false xs b o sz cap f hx hL hc hh
 |slc cap xs b o sz f hL hc hh _=>exact .slc cap xs b o sz f hL hc hh
 |fp xs b o sz i off f hL hi ho hh _=>exact .fp xs b o sz i off f hL hi ho hh
 |fm ob p b x ho hl hd hx hp=>exact .fm ob p b x ho hl hd hx hp
theorem zY.wk {w:World} {D:Nat->Prop} {h:yG} {β:uG}:∀{v:AV} {c:Value},zY w D h β v c->zY w D h β (VH v) c:=by
 intro v c hv
 have key:∀{cs:List AV} {c:Array Value} (ih:∀(i:Nat) v,cs[i]? =some v->zY w D h β (VH v) (c.getD i undef)) (i:Nat) v,(wkL cs)[i]? =some v->zY w D h β v (c.getD i undef):=λih i v hv=>by
  rw[zBa,yAq]at hv;obtain⟨u,hu,rfl⟩:=hv;exact ih i u hu
 induction hv with
 |fz v c hf=>exact .fz _ _ hf.wk
 |agg cs c hl h1 _ ih=>exact .agg _ c (by rw[dM];exact hl) h1 (key ih)
 |fn f caps c hl _ ih=>exact .fn f _ c (by rw[dM];exact hl) (key ih)
 |tup vs c hl _ ih=>exact .tup _ c (by rw[dM];exact hl) (key ih)
 |dref k off len c hk h1=>exact .dref _ _ _ _ hk h1
 |dptr k i off c hk h1=>exact .dptr _ _ _ _ hk h1
 |ref k off len sz xs st b n cap hk hb hn hc hs=>exact .ref k off len sz xs st b n cap hk hb hn hc hs
 |ref0 k off sz xs st a hk hn=>exact .ref0 k off sz xs st a hk hn
 |pbox k off cs b n hk hb=>exact .pbox k off cs b n hk hb
 |parr k i off sz xs st b n hk hb hi ho=>exact .parr k i off sz xs st b n hk hb hi ho
theorem xH.free {w:World} {D D':Nat->Prop}:∀{v:AV} {c:Value},xH w D v c->v.nosl=true->xH w D' v c:=by
 intro v c hv
 induction hv with
 |bot c=>exact λ_=> .bot c
 |gh n c=>exact λ_=> .gh n c
 |s v=>exact λ_=> .s v
 |agg cs c hl h1 _ ih=>exact λhn=> .agg cs c hl h1 λi v hv=>ih i v hv (fK (by simpa [AV.nosl]using hn) hv)
 |_=>intro hn;simp[AV.nosl]at hn
theorem zY.fz0 {w:World} {X:Nat->Prop} {h:yG} {β:uG} (H:jA X h β w) {K:List Nat} {h':yG} {β':uG} {D':Nat->Prop}
  (hk:∀k,k∈K->∀e,h k=some e->match e with| .box _=>∃cs',h' k=some (.box cs')| .obj _=>∃cs',h' k=some (.obj cs')| .arr sz xs _=>∃xs' st',h' k=some (.arr sz xs' st')/\xs.length=xs'.length| .dead=>h' k=some .dead) (hβ:∀k,k∈K->β' k=β k) (hD:∀b,b<w.heap.size->¬xP X β b->¬D' b)
  {v:AV} {c:Value} (hv:zY w (xP X β) h β v c):(∀k,k∈v.refs->k∈K∨∀b n,(b,n)∈β k->¬D' b)->zY w D' h' β' (qC K h v) c:=by
 have key:∀{cs:List AV} {c:Array Value} (ih:∀(i:Nat) v,cs[i]? =some v->(∀k,k∈v.refs->k∈K∨∀b n,(b,n)∈β k->¬D' b)->zY w D' h' β' (qC K h v) (c.getD i undef)) (hr:∀k,k∈jG cs->k∈K∨∀b n,(b,n)∈β k->¬D' b)
   (i:Nat) v,(wQ K h cs)[i]? =some v->zY w D' h' β' v (c.getD i undef):=λih hr i v hv=>by
  rw[bK,yAq]at hv;obtain⟨u,hu,rfl⟩:=hv;exact ih i u hu λk hk=>hr k (wR hu hk)
 have efz:∀{v c},xH w (xP X β) v c->xH w D' v c:=λhf=>hf.evo (yAg _) λb hb hd=>⟨rfl,hD b hb hd⟩
 have cont:∀{k},K.contains k=true↔k∈K:=λ{k}=>by simp
 induction hv with
 | fz v c hf=>
  intro _
  have:xH w D' (qC K h v) c:=by
   have h2:∀{v c},xH w (xP X β) v c->xH w D' (qC K h v) c:=by
    intro v c hf
    induction hf with
    |bot c=>exact .bot c
    |gh n c=>exact .gh n c
    |s v=>exact .s v
    | agg cs c hl h1 _ ih=>
     exact .agg _ c (by rw[qV];exact hl) h1 λi v hv=>by
      rw[bK,yAq]at hv;obtain⟨u,hu,rfl⟩:=hv;exact ih i u hu
    |nil a cap=>exact .nil _ _
    |nil1 a cap=>exact .nil1 _ _
    |sl nn xs b o sz cap f hx hL hc hh _=>exact efz (.sl nn xs b o sz cap f hx hL hc hh)
    |slc cap xs b o sz f hL hc hh _=>exact efz (.slc cap xs b o sz f hL hc hh)
    |fp xs b o sz i off f hL hi ho hh _=>exact efz (.fp xs b o sz i off f hL hi ho hh)
    |fm ob p b x ho hl hd hx hp=>exact efz (.fm ob p b x ho hl hd hx hp)
   exact h2 hf
  exact .fz _ _ this
 |agg cs c hl h1 _ ih=>exact λhr=> .agg _ c (by rw[qV];exact hl) h1 (key ih hr)
 |fn f caps c hl _ ih=>exact λhr=> .fn f _ c (by rw[qV];exact hl) (key ih hr)
 |tup vs c hl _ ih=>exact λhr=> .tup _ c (by rw[qV];exact hl) (key ih hr)
 |dref k off len c hk' h1=>
  intro hr;unfold qC
  cases hc:K.contains k with
  |true=>exact .dref _ _ _ _ (hk k (cont.1 hc) _ hk') h1
  |false=>simp only[hk',yCg];exact .fz _ _ (.bot _)
 |dptr k i off c hk' h1=>
  intro hr;unfold qC
  cases hc:K.contains k with
  |true=>exact .dptr _ _ _ _ (hk k (cont.1 hc) _ hk') h1
  |false=>exact .fz _ _ (.bot _)
 | ref k off len sz xs st b n cap hk' hb hn hc' hs=>
  intro hr;unfold qC
  cases hc:K.contains k with
  |true=>obtain⟨xs',st',hk2,_⟩:=hk k (cont.1 hc) _ hk';exact .ref k off len sz xs' st' b n cap hk2 (by rw[hβ k (cont.1 hc)];exact hb) hn hc' hs
  | false=>
   simp only[hk',yCg]
   cases hnest:st.nest with
   |true=>exact .fz _ _ (.bot _)
   |false=>
   simp only[yCg];have hnK:¬k∈K:=λh=>by rw[cont.2 h]at hc;cases hc
   have hfree:=(hr k (by simp[AV.refs])).resolve_left hnK;obtain⟨g1,g2,g3,g4,g5,f,g6,g7,g8⟩:=H.ent k _ hk'
   have hnx:n<=xs.length:=by
    cases hbk:β k with
    |nil=>rw[hbk]at hb;simp at hb
    |cons q rr=>
     obtain⟨b0,n0⟩:=q;obtain⟨e1,_,e3⟩:=g5 b0 n0 rr hbk;rw[hbk]at hb;simp at hb
     rcases hb with⟨_,rfl⟩|hb
     ·omega
     ·exact yFe (e3 b n hb)
   have hl:((xs.drop off).take len).length=len:=by simp;omega
   by_cases hz:len=0
   ·subst hz;simp only[yDl];exact .fz _ _ (.nil _ _)
   ·have hat:∀(i:Nat) y,((xs.drop off).take len)[i]? =some y->xs[off+i]? =some y:=λi y hy=>by
     rw[yBr]at hy;split at hy
     ·rwa [yB3]at hy
     ·cases hy
    obtain⟨cc,el,e1,e2,e3,_⟩:=g8 b n hb
    have:=xH.sl (w:=w) (D:=D') false ((xs.drop off).take len) b (off*sz) sz cap (λi j=>f (off+i) j) (λh0=>hz (by rw[<-hl,h0];rfl))
     ⟨H.lt b (.inr ⟨k,n,hb⟩),hfree b n hb,g1,by rw[hl];omega,λi y hy=>g4 _ y (hat i y hy),λi j hi hj=>by
      rw[hl]at hi;rw[uH e1,show off*sz+i*sz+j=(off+i)*sz+j by rw[yBi]]
      exact e3 _ _ (by omega) hj,λi j hi hj=>g7 _ _ zDu hj⟩ (by rw[hl];exact hc') (λi y j v hy hv=>efz (g6.toF hnest _ y j v (hat i y hy) hv))
    rw[hl]at this;exact .fz _ _ this
 | ref0 k off sz xs st a hk' hn=>
  intro hr;unfold qC
  cases hc:K.contains k with
  |true=>obtain⟨xs',st',hk2,hl2⟩:=hk k (cont.1 hc) _ hk';exact .ref0 k off sz xs' st' a hk2 (hl2▸hn)
  |false=>
   simp only[hk',yCg,yDl]
   cases st.nest with
   |true=>exact .fz _ _ (.bot _)
   |false=>exact .fz _ _ (.nil _ _)
 | pbox k off cs b n hk' hb=>
  intro hr;unfold qC
  cases hc:K.contains k with
  |true=>
   obtain⟨cs',h2⟩:=hk k (cont.1 hc) _ hk';exact .pbox k off cs' b n h2 (by rw[hβ k (cont.1 hc)];exact hb)
  |false=>exact .fz _ _ (.bot _)
 |parr k i off sz xs st b n hk' hb hi ho=>
  intro hr;unfold qC
  cases hc:K.contains k with
  |true=>obtain⟨xs',st',hk2,_⟩:=hk k (cont.1 hc) _ hk';exact .parr k i off sz xs' st' b n hk2 (by rw[hβ k (cont.1 hc)];exact hb) hi ho
  |false=>exact .fz _ _ (.bot _)
theorem zY.frz {w:World} {X:Nat->Prop} {h:yG} {β:uG} (H:jA X h β w) {K:List Nat} {h':yG} {β':uG} {D':Nat->Prop}
  (hk:∀k,k∈K->∀e,h k=some e->match e with| .box _=>∃cs',h' k=some (.box cs')| .obj _=>∃cs',h' k=some (.obj cs')| .arr sz xs _=>∃xs' st',h' k=some (.arr sz xs' st')/\xs.length=xs'.length| .dead=>h' k=some .dead) (hβ:∀k,k∈K->β' k=β k) (hD:∀b,b<w.heap.size->¬xP X β b->¬D' b) (hfr:∀k,¬k∈K->∀b n,(b,n)∈β k->¬D' b)
  {v:AV} {c:Value} (hv:zY w (xP X β) h β v c):zY w D' h' β' (wP K h v) c:=by
 have key:∀{cs:List AV} {c:Array Value} (ih:∀(i:Nat) v,cs[i]? =some v->zY w D' h' β' (wP K h v) (c.getD i undef))
   (i:Nat) v,(uY K h cs)[i]? =some v->zY w D' h' β' v (c.getD i undef):=λih i v hv=>by
  rw[aL,yAq]at hv;obtain⟨u,hu,rfl⟩:=hv;exact ih i u hu
 have efz:∀{v c},xH w (xP X β) v c->xH w D' v c:=λhf=>hf.evo (yAg _) λb hb hd=>⟨rfl,hD b hb hd⟩
 have cont:∀{k},K.contains k=true↔k∈K:=λ{k}=>by simp
 induction hv with
 | fz v c hf=>
  have:xH w D' (wP K h v) c:=by
   have h2:∀{v c},xH w (xP X β) v c->xH w D' (wP K h v) c:=by
    intro v c hf
    induction hf with
    |bot c=>exact .bot c
    |gh n c=>exact .gh n c
    |s v=>exact .s v
    | agg cs c hl h1 _ ih=>
     exact .agg _ c (by rw[vU];exact hl) h1 λi v hv=>by
      rw[aL,yAq]at hv;obtain⟨u,hu,rfl⟩:=hv;exact ih i u hu
    |nil a cap=>exact .nil _ _
    |nil1 a cap=>exact .nil1 _ _
    |sl nn xs b o sz cap f hx hL hc hh _=>exact efz (.sl nn xs b o sz cap f hx hL hc hh)
    |slc cap xs b o sz f hL hc hh _=>exact efz (.slc cap xs b o sz f hL hc hh)
    |fp xs b o sz i off f hL hi ho hh _=>exact efz (.fp xs b o sz i off f hL hi ho hh)
    |fm ob p b x ho hl hd hx hp=>exact efz (.fm ob p b x ho hl hd hx hp)
   exact h2 hf
  exact .fz _ _ this
 |agg cs c hl h1 _ ih=>exact .agg _ c (by rw[vU];exact hl) h1 (key ih)
 |fn f caps c hl _ ih=>exact .fn f _ c (by rw[vU];exact hl) (key ih)
 |tup vs c hl _ ih=>exact .tup _ c (by rw[vU];exact hl) (key ih)
 |dref k off len c hk' h1=>
  unfold wP
  cases hc:K.contains k with
  |true=>exact .dref _ _ _ _ (hk k (cont.1 hc) _ hk') h1
  |false=>simp only[hk',yCg];exact .fz _ _ (.bot _)
 |dptr k i off c hk' h1=>
  unfold wP
  cases hc:K.contains k with
  |true=>exact .dptr _ _ _ _ (hk k (cont.1 hc) _ hk') h1
  |false=>exact .fz _ _ (.bot _)
 | ref k off len sz xs st b n cap hk' hb hn hc' hs=>
  unfold wP
  cases hc:K.contains k with
  |true=>obtain⟨xs',st',hk2,_⟩:=hk k (cont.1 hc) _ hk';exact .ref k off len sz xs' st' b n cap hk2 (by rw[hβ k (cont.1 hc)];exact hb) hn hc' hs
  | false=>
   simp only[hk',yCg];have hnK:¬k∈K:=λh=>by rw[cont.2 h]at hc;cases hc
   have hfree:=hfr k hnK;obtain⟨g1,g2,g3,g4,g5,f,g6,g7,g8⟩:=H.ent k _ hk'
   have hnx:n<=xs.length:=by
    cases hbk:β k with
    |nil=>rw[hbk]at hb;simp at hb
    |cons q rr=>
     obtain⟨b0,n0⟩:=q;obtain⟨e1,_,e3⟩:=g5 b0 n0 rr hbk;rw[hbk]at hb;simp at hb
     rcases hb with⟨_,rfl⟩|hb
     ·omega
     ·exact yFe (e3 b n hb)
   cases hnest:st.nest with
   | true=>
    simp only[yBx]
    cases hnk:wG (wQ K h xs)with
    |false=>exact .fz _ _ (.bot _)
    |true=>
    simp only[yBx];have hl0:(wQ K h xs).length=xs.length:=qV K h xs;have hl:(((wQ K h xs).drop off).take len).length=len:=by simp[hl0];omega
    by_cases hz:len=0
    ·subst hz;simp only[yDl];exact .fz _ _ (.nil _ _)
    have hat:∀(i:Nat) y,(((wQ K h xs).drop off).take len)[i]? =some y->∃x,xs[off+i]? =some x/\y=qC K h x:=λi y hy=>by
     rw[yBr]at hy;split at hy
     ·rw[yB3,bK,yAq]at hy;obtain⟨x,hx,rfl⟩:=hy;exact⟨x,hx,rfl⟩
     ·cases hy
    obtain⟨cc,el,e1,e2,e3,_⟩:=g8 b n hb
    have:=xH.sl (w:=w) (D:=D') false (((wQ K h xs).drop off).take len) b (off*sz) sz cap (λi j=>f (off+i) j) (λh0=>hz (by rw[<-hl,h0];rfl))
     ⟨H.lt b (.inr ⟨k,n,hb⟩),hfree b n hb,g1,by rw[hl];omega,λi y hy=>by
      obtain⟨x,hx,rfl⟩:=hat i y hy;rw[NN,qV]
      exact g4 _ x hx,λi j hi hj=>by
      rw[hl]at hi;rw[uH e1,show off*sz+i*sz+j=(off+i)*sz+j by rw[yBi]]
      exact e3 _ _ (by omega) hj,λi j hi hj=>g7 _ _ zDu hj⟩ (by rw[hl];exact hc') (λi y j v hy hv=>by
      obtain⟨x,hx,rfl⟩:=hat i y hy;have hyk:(qC K h x).nokey=true:=jB hnk (show(wQ K h xs)[off+i]? =some (qC K h x) by rw[bK,hx];rfl);have hvk:v.nokey=true:=jB (QK hyk) hv;rw[NN,bK,yAq]at hv;obtain⟨u,hu,rfl⟩:=hv
      exact(zY.fz0 H hk hβ hD (g6.toV _ x j u hx hu) λk' _=>by
       by_cases hk2:k'∈K
       ·exact .inl hk2
       ·exact .inr (hfr k' hk2)).toF hvk)
    rw[hl]at this;exact .fz _ _ this
   |false=>
   simp only[yCg];have hl:((xs.drop off).take len).length=len:=by simp;omega
   by_cases hz:len=0
   ·subst hz;simp only[yDl];exact .fz _ _ (.nil _ _)
   ·have hat:∀(i:Nat) y,((xs.drop off).take len)[i]? =some y->xs[off+i]? =some y:=λi y hy=>by
     rw[yBr]at hy;split at hy
     ·rwa [yB3]at hy
     ·cases hy
    obtain⟨cc,el,e1,e2,e3,_⟩:=g8 b n hb
    have:=xH.sl (w:=w) (D:=D') false ((xs.drop off).take len) b (off*sz) sz cap (λi j=>f (off+i) j) (λh0=>hz (by rw[<-hl,h0];rfl))
     ⟨H.lt b (.inr ⟨k,n,hb⟩),hfree b n hb,g1,by rw[hl];omega,λi y hy=>g4 _ y (hat i y hy),λi j hi hj=>by
      rw[hl]at hi;rw[uH e1,show off*sz+i*sz+j=(off+i)*sz+j by rw[yBi]]
      exact e3 _ _ (by omega) hj,λi j hi hj=>g7 _ _ zDu hj⟩ (by rw[hl];exact hc') (λi y j v hy hv=>efz (g6.toF hnest _ y j v (hat i y hy) hv))
    rw[hl]at this;exact .fz _ _ this
 | ref0 k off sz xs st a hk' hn=>
  unfold wP
  cases hc:K.contains k with
  |true=>obtain⟨xs',st',hk2,hl2⟩:=hk k (cont.1 hc) _ hk';exact .ref0 k off sz xs' st' a hk2 (hl2▸hn)
  | false=>
   simp only[hk',yCg,yDl]
   cases st.nest with
   |true=>
    simp only[yBx]
    cases wG (wQ K h xs)with
    |true=>exact .fz _ _ (.nil _ _)
    |false=>exact .fz _ _ (.bot _)
   |false=>exact .fz _ _ (.nil _ _)
 | pbox k off cs b n hk' hb=>
  unfold wP
  cases hc:K.contains k with
  |true=>
   obtain⟨cs',h2⟩:=hk k (cont.1 hc) _ hk';exact .pbox k off cs' b n h2 (by rw[hβ k (cont.1 hc)];exact hb)
  |false=>exact .fz _ _ (.bot _)
 |parr k i off sz xs st b n hk' hb hi ho=>
  unfold wP
  cases hc:K.contains k with
  |true=>obtain⟨xs',st',hk2,_⟩:=hk k (cont.1 hc) _ hk';exact .parr k i off sz xs' st' b n hk2 (by rw[hβ k (cont.1 hc)];exact hb) hi ho
  |false=>exact .fz _ _ (.bot _)
def qW (K:List Nat) (h:yG):xO->xO
 | .box cs=> .box (uY K h cs)
 | .obj cs=> .obj cs
 | .arr sz xs fl=>bif fl.nest then .arr sz (uY K h xs) ⟨fl.stale,!wG (uY K h xs)⟩else .arr sz xs fl
 | .dead=> .dead
def hH (K:List Nat) (h:yG) (sz:Nat) (xs:List AV) (fl:Fl):∃xs' fl',qW K h (.arr sz xs fl)= .arr sz xs' fl'/\xs'.length=xs.length:=by
 cases hn:fl.nest with
 |true=>exact⟨_,_,by simp only[qW,hn,yBx];rfl,vU K h xs⟩
 |false=>exact⟨_,_,by simp only[qW,hn,yCg];rfl,rfl⟩
def HF {K:List Nat} {h:yG} {v:AV} {i:Nat} (hv:wP K h v= .gh i):v= .gh i:=by
 cases v<;>first
  |exact hv
  |(simp[wP]at hv;done)
  |skip
 ·exfalso;rename_i k _ _;unfold wP at hv
  cases hc:K.contains k<;>rw[hc]at hv
  ·simp only[yCg]at hv;split at hv
   ·rename_i fl _
    cases hn:Fl.nest fl<;>rw[hn]at hv
    ·cases hv
    ·simp only[yBx]at hv;generalize wG _=q at hv
     cases q<;>cases hv
   ·cases hv
  ·cases hv
 ·exfalso;rename_i k _ _;unfold wP at hv
  cases hc:K.contains k<;>rw[hc]at hv<;>cases hv
def wX (K:List Nat) (h:yG):List (Nat×xO)
 :=K.filterMap λk=>(h k).map λe=>(k,qW K h e)
def restr (K ts:List Nat) (st:St):St:=⟨ts.map λt=>(t,wP K (zD st.h) (zG st.tm t)),wX K (zD st.h)⟩
def xY (K:List Nat) (h:yG) (k:Nat):zD (wX K h) k=if k∈K then(h k).map (qW K h)else none:=by
 unfold wX;generalize qW K h=g
 induction K with
 |nil=>rfl
 | cons j K ih=>
  rw[List.filterMap_cons]
  cases hj:h j with
  |none=>
   simp only[yDo,ih,yBt];by_cases hkj:k=j
   ·subst hkj;simp[hj]
   ·simp[hkj]
  |some e=>
   simp only[Option.map_some,xI,ih,yBt];by_cases hkj:k=j
   ·subst hkj;simp[hj]
   ·simp[hkj]
def jO (K ts:List Nat) (st:St) (t:Nat):zG (restr K ts st).tm t=if t∈ts then wP K (zD st.h) (zG st.tm t)else .bot:=by
 unfold restr;dsimp only;generalize wP K (zD st.h)=g
 induction ts with
 |nil=>rfl
 |cons j ts ih=>
  simp only[yBs,yT,ih,yBt];by_cases htj:t=j
  ·subst htj;simp
  ·simp[htj]
theorem jA.restr {X:Nat->Prop} {h:yG} {β:uG} {w:World} (H:jA X h β w) (K:List Nat):
  jA X (zD (wX K h)) (λk=>if k∈K then β k else []) w/\∀v c,zY w (xP X β) h β v c->zY w (xP X λk=>if k∈K then β k else []) (zD (wX K h)) (λk=>if k∈K then β k else []) (wP K h v) c:=by
 have hsub:∀b,xP X (λk=>if k∈K then β k else []) b->xP X β b:=λb hd=>by
  rcases hd with hx|⟨k,n,hm⟩
  ·exact .inl hx
  ·(try dsimp only at hm)
   split at hm
   ·exact .inr ⟨k,n,hm⟩
   ·simp at hm
 have hv:∀v c,zY w (xP X β) h β v c->zY w (xP X λk=>if k∈K then β k else []) (zD (wX K h)) (λk=>if k∈K then β k else []) (wP K h v) c:=λv c hv=>by
  refine zY.frz H (K:=K) (λk hk e he=>?_) (λk hk=>by simp[hk]) (λb _ hd h'=>hd (hsub b h')) (λk hk b n hm=>?_) hv
  ·rw[xY,yAd hk,he]
   cases e with
   |box cs=>exact⟨_,rfl⟩
   |obj cs=>exact⟨_,rfl⟩
   |arr sz xs fl=>
    cases hn:fl.nest with
    |true=>exact⟨_,_,by simp only[Option.map_some,qW,hn,yBx];rfl,(vU K h xs).symm⟩
    |false=>exact⟨_,_,by simp only[Option.map_some,qW,hn,yCg];rfl,rfl⟩
   |dead=>rfl
  ·rintro(hx|⟨k',n',hm'⟩)
   ·exact H.free k b n hm hx
   ·(try dsimp only at hm')
    split at hm'
    ·rename_i hk';exact hk (H.disj k k' b n n' hm hm'▸hk')
    ·simp at hm'
 have ef:∀{v c},xH w (xP X β) v c->xH w (xP X λk=>if k∈K then β k else []) v c:=λhf=>hf.evo (yAg _) λb _ hd=>⟨rfl,λh'=>hd (hsub b h')⟩
 refine⟨⟨λk e he=>?_,λk he=>?_,λk k' b n n' h1 h2=>?_,λk b n hm=>?_,λb hd=>H.lt b (hsub b hd)⟩,hv⟩
 ·rw [xY]at he;split at he
  ·rename_i hk;rw[yAq]at he;obtain⟨e0,he0,rfl⟩:=he;have:=H.ent k e0 he0
   cases e0 with
   |dead=>show(if k∈K then β k else [])=[];rw[yAd hk];exact this
   |box cs=>
    obtain⟨b,c,el,h1,h2,h3,h4,h5⟩:=this;refine⟨b,c,el,by(try dsimp only);rw[yAd hk];exact h1,h2,by rw[vU];exact h3,h4,λi v hi=>?_⟩;rw[aL,yAq]at hi;obtain⟨u,hu,rfl⟩:=hi;exact hv u _ (h5 i u hu)
   |obj cs=>
    exact⟨by(try dsimp only);rw[yAd hk];exact this.1,this.2⟩
   | arr sz xs st=>
    obtain⟨g1,g2,g3,g4,g5,f,g6,g7,g8⟩:=this
    cases hn:st.nest with
    |false=>
     simp only[qW,hn,yCg];exact⟨g1,g2,by(try dsimp only);rw[yAd hk];exact g3,g4,by(try dsimp only);rw[yAd hk];exact g5,f,.ofF λi x j v hx hy=>ef (g6.toF hn i x j v hx hy),g7,by(try dsimp only);rw[yAd hk];exact g8⟩
    | true=>
     simp only[qW,hn,yBx];have hl:=vU K h xs
     have hat:∀(i:Nat) y,(uY K h xs)[i]? =some y->∃x,xs[i]? =some x/\y=wP K h x:=λi y hy=>by
      rw[aL,yAq]at hy;obtain⟨x,hx,rfl⟩:=hy;exact⟨x,hx,rfl⟩
     refine⟨g1,by rw[hl];exact g2,λh0=>by(try dsimp only);rw[yAd hk];exact g3 (λh1=>h0 (by rw[h1];rfl)),λi y hy=>?_,by(try dsimp only);rw[yAd hk,hl];exact g5,f,λi y j v hy hv2=>?_,by rw[hl];exact g7,by(try dsimp only);rw[yAd hk];exact g8⟩
     ·obtain⟨x,hx,rfl⟩:=hat i y hy;rw[NP,vU];exact g4 i x hx
     ·obtain⟨x,hx,rfl⟩:=hat i y hy
      have hR:zY w (xP X λk=>if k∈K then β k else []) (zD (wX K h)) (λk=>if k∈K then β k else []) v (f i j):=by
       rw[NP,aL,yAq]at hv2;obtain⟨u,hu,rfl⟩:=hv2;exact hv u _ (g6.toV i x j u hx hu)
      exact⟨hR,λh0=>hR.toF (jB (QK (jB (by simpa using h0) hy)) hv2)⟩
  ·cases he
 ·(try dsimp only)
  split
  ·rename_i hk;rw[xY,yAd hk]at he
   cases hk':h k with
   |none=>exact H.off k hk'
   |some e=>simp[hk']at he
  ·rfl
 ·(try dsimp only at h1 h2)
  split at h1<;>split at h2
  ·exact H.disj _ _ _ _ _ h1 h2
  ·simp at h2
  ·simp at h1
  ·simp at h1
 ·(try dsimp only at hm)
  split at hm
  ·exact H.free k b n hm
  ·simp at hm
theorem wN.restrM {K0:List Nat} {F:Fr K0} {m:Nat} {st:St} {a:Act} {w:World} (R:wN F m st a w) (K ts:List Nat) (hK:K0.all (K.contains ·)=true) {tm':Nat->AV} (hg:tm' GS=zG (restr K ts st).tm GS)
  (ht:∀t,tm' t=zG (restr K ts st).tm t∨∃k b p,zD st.h k=some (.obj (b,p))/\¬k∈K/\zG st.tm t= .s (.map (some b))/\tm' t= .fm none p):VG F m tm' (zD (restr K ts st).h) a w:=by
 obtain⟨⟨X,β,hX,H,Ht,KK,hJ,hD⟩,nd,gs,hl⟩:=R;obtain⟨H',hv⟩:=H.restr K;refine⟨⟨X,_,hX,H',λt=>?_,⟨λk e he=>?_,KK.size,KK.keep,λk b n hm=>?_,λk b n hm=>?_,KK.bs,KK.os,KK.tape,KK.output⟩,λi hi=>?_,hD⟩,λk=>?_,gs,hl⟩
 ·rcases ht t with e|⟨k,b,p,h1,h2,h3,h4⟩
  ·rw[e,jO];split
   ·exact hv _ _ (Ht t)
   ·exact .fz _ _ (.bot _)
  ·obtain⟨g1,x,g2,g3⟩:=H.ent k _ h1;have hc:=Ht t;rw[h3]at hc;rw[h4]
   have e:a.eval (.tmp t)= .map (some b):=by
    generalize a.eval (.tmp t)=c at hc
    cases hc with
    |fz _ _ hf=>cases hf;rfl
   rw[e];have hm:(b,0)∈β k:=by rw[g1];exact yBe.2 Z
   refine .fz _ _ (.fm none p b x (λn h=>by cases h) (H.lt b (.inr ⟨k,0,hm⟩)) (λhd=>?_) g2 g3)
   rcases hd with hx|⟨j,n,hj⟩
   ·exact H.free k b 0 hm hx
   ·(try dsimp only at hj)
    split at hj
    ·rename_i hjK;rw[<-H.disj k j b 0 n hm hj]at hjK;exact h2 hjK
    ·simp at hj
 ·have hk:k∈K:=by
   have:=yAu.1 hK k (F.hh k e he);simpa using this
  have h1:=KK.knd k e he;have hr:∀e',zD st.h k=some e'->zD (wX K (zD st.h)) k=some (qW K (zD st.h) e'):=λe' h2=>by rw[xY,yAd hk,h2];rfl
  cases e with
  |dead=>exact h1
  |box cs=>obtain⟨cs',h2⟩:=h1;exact⟨_,hr _ h2⟩
  |obj cs=>obtain⟨cs',h2⟩:=h1;exact⟨_,hr _ h2⟩
  |arr sz xs sl=>obtain⟨xs',sl',h2,h3⟩:=h1;obtain⟨xs2,fl2,h4,h5⟩:=hH K (zD st.h) sz xs' sl';exact⟨xs2,fl2,(hr _ h2).trans (by rw[h4]),by rw[h5];exact h3⟩
 ·(try dsimp only at hm)
  split at hm
  ·exact KK.own k b n hm
  ·simp at hm
 ·have hk:k∈K:=by
   have:=yAu.1 hK k (F.hK k b n hm);simpa using this
  (try dsimp only)
  rw[yAd hk];exact KK.pas k b n hm
 ·rw[hg,jO]at hi;split at hi
  ·have h1:zG st.tm GS= .gh i:=HF hi;refine F.Jst i _ X w w _ (hJ i h1) (yAg _) (λ_ _ _=>rfl) (λb hb=>?_) (λb hb=>?_) Z Z Z
   ·obtain⟨k,n,hm⟩:=hb
    (try dsimp only at hm)
    split at hm
    ·exact .inl ⟨k,n,hm⟩
    ·simp at hm
   ·obtain⟨k,n,hm⟩:=hb;exact H'.lt b (.inr ⟨k,n,hm⟩)
  ·cases hi
 ·show zD (wX K (zD st.h)) k≠some .dead
  rw[xY];split
  ·intro h;rw[yAq]at h;obtain⟨e,he,h2⟩:=h
   cases e with
   |dead=>exact nd k he
   |box cs=>cases h2
   |obj cs=>cases h2
   |arr a b c=>obtain⟨xs2,fl2,h4,_⟩:=hH K (zD st.h) a b c;rw[h4]at h2;cases h2
  ·intro h;cases h
theorem wN.restr {K0:List Nat} {F:Fr K0} {m:Nat} {st:St} {a:Act} {w:World} (R:wN F m st a w) (K ts:List Nat) (hK:K0.all (K.contains ·)=true):wN F m (restr K ts st) a w:=
 R.restrM K ts hK Z λ_=> .inl Z
def bN (P:Program) (f:Nat):Prop:=∀(args:Array Value) (w:World),(callFunc f args).run P w= .ok (.enter f args) w
def yY (_:List AV) (_:List (Nat×xO)) (_:AV) (_:List (Nat×xO)):Prop:=True
def yF {a:List AV} {h0 h1:List (Nat×xO)} {r:AV}:yY a h0 r h1:=trivial
structure xR (P:Program) (f:Nat) (args:List AV) (h0:List (Nat×xO)) (r:AV) (h1:List (Nat×xO)):Prop where
 able:bN P f
 nd:∀k,zD h1 k≠some .dead
 sim:∀(X:Nat->Prop) (w:World) (β:uG) (cargs:Array Value),cargs.size=args.length->jA X (zD h0) β w->(∀(i:Nat) v,args[i]? =some v->zY w (xP X β) (zD h0) β v (cargs.getD i undef))->
  Calls P f cargs w λe w'=>∃c β',e= .returned c/\xN X w (zD h0) β w' (zD h1) β'/\zY w' (xP X β') (zD h1) β' r c
def xO.nosl:xO->Bool
 | .box cs=>NM cs
 | .obj cs=>true
 | .arr _ xs _=>NM xs
 | .dead=>true
def KR:List (Nat×xO)->Bool
 | []=>true
 |(_,e)::r=>e.nosl&&KR r
theorem DK:∀{h:List (Nat×xO)} {k:Nat} {e:xO},KR h=true->zD h k=some e->e.nosl=true
 | [],k,e,_,he=>by simp[zD]at he
 |(j,e0)::r,k,e,hn,he=>by
  simp[KR]at hn;rw[xI]at he;split at he
  ·cases he;exact hn.1
  ·exact DK hn.2 he
def yX (h:List (Nat×xO)):List Nat:=h.map (·.1)
theorem uB:∀{h:List (Nat×xO)} {k:Nat} {e:xO},zD h k=some e->k∈yX h
 | [],k,e,he=>by simp[zD]at he
 |(j,e0)::r,k,e,he=>by
  rw[xI]at he;split at he
  ·rename_i h;simp[yX,h]
  ·have:=uB he;simp[yX]at this⊢;exact .inr this
theorem bO:∀{h:List (Nat×xO)} {k:Nat},k∈yX h->∃e,zD h k=some e
 | [],k,hk=>by simp[yX]at hk
 |(j,e0)::r,k,hk=>by
  rw[xI];split
  ·exact⟨_,rfl⟩
  ·rename_i h;simp only[yX,yBs,yBt]at hk;exact bO (hk.resolve_left h)
theorem dN:∀{h:List (Nat×xO)} {k:Nat} {e:xO},zD h k=some e->∃p∈h,p.2=e
 | [],k,e,he=>by simp[zD]at he
 |(j,e0)::r,k,e,he=>by
  rw[xI]at he;split at he
  ·cases he;exact⟨(j,e0),by simp,rfl⟩
  ·obtain⟨p,hp,h2⟩:=dN he;exact⟨p,by simp[hp],h2⟩
def clE (ks:List Nat):xO->Bool
 | .box cs=>(jG cs).all (ks.contains ·)
 | .obj cs=>true
 | .arr _ xs fl=>bif fl.nest then(jG xs).all (ks.contains ·)else true
 | .dead=>true
def VI {x v:AV} {j:Nat} (h:x.cells[j]? =some v) {k:Nat} (hk:k∈v.refs):k∈x.refs:=by
 cases x<;>first
  |(simp[AV.cells]at h;cases j<;>simp at h;subst h;exact hk)
  |exact wR h hk
def zZm (K:List Nat) (h:yG) (v:AV):AV:=VH (qC K h v)
def zPz {args:Array Operand} {caps:List AV} {ρ:Operand->Value} {cv:Array Value} (g:Operand->AV) {i:Nat} {v:AV} (hc:cv.size=caps.length) (h:(args.toList.map g++caps)[i]? =some v):
  (∃x,x∈args/\g x=v/\(args.map ρ++cv).getD i undef=ρ x)∨∃j,caps[j]? =some v/\(args.map ρ++cv).getD i undef=cv.getD j undef:=by
 by_cases hi:i<args.size
 ·rw[yA9 DT,yAi,yAq]at h;obtain⟨x,hx,rfl⟩:=h;have hx':args[i]? =some x:=by simpa using hx
  refine .inl ⟨x,Array.mem_of_getElem? hx',rfl,gB ?_⟩;rw[yCi DT];simp[hx']
 ·rw[yA4 wF]at h;refine .inr ⟨i-args.size,by simpa using h,?_⟩;have hlt:i-args.size<caps.length:=by simpa using (yA5.1 h).1
  apply gB;rw[yEd wF];simpa using kH cv (i-args.size) (by omega)
section
variable {P:Program} {st:St}
def zJt {X Xc:Nat->Prop} {w':World} {h h':yG} {β1 β':uG} (hh:∀k e,h k=some e->h' k=some e/\β' k=β1 k) (hD:∀b,xP X β' b->b<w'.heap.size->xP Xc β1 b∨False) {v:AV} {c:Value} (hv:zY w' (xP Xc β1) h β1 v c):zY w' (xP X β') h' β' v c:=by
 have ef:∀{v c},xH w' (xP Xc β1) v c->xH w' (xP X β') v c:=λhf=>hf.evo (yAg _) λb hb hd=>⟨rfl,λh'=>hd ((hD b h' hb).resolve_right id)⟩
 induction hv with
 |fz v c hf=>exact .fz _ _ (ef hf)
 |agg cs c hl h1 _ ih=>exact .agg cs c hl h1 ih
 |fn f caps c hl _ ih=>exact .fn f caps c hl ih
 |tup vs c hl _ ih=>exact .tup vs c hl ih
 |dref k off len c hk h1=>exact .dref _ _ _ _ (hh k _ hk).1 h1
 |dptr k i off c hk h1=>exact .dptr _ _ _ _ (hh k _ hk).1 h1
 |ref k off len sz xs st b n cap hk hb hn hc hs=>exact .ref k off len sz xs st b n cap (hh k _ hk).1 (by rw[(hh k _ hk).2];exact hb) hn hc hs
 |ref0 k off sz xs st a hk hn=>exact .ref0 k off sz xs st a (hh k _ hk).1 hn
 |pbox k off cs b n hk hb=>exact .pbox k off cs b n (hh k _ hk).1 (by rw[(hh k _ hk).2];exact hb)
 |parr k i off sz xs st b n hk hb hi ho=>exact .parr k i off sz xs st b n (hh k _ hk).1 (by rw[(hh k _ hk).2];exact hb) hi ho
def zFn {X Xc:Nat->Prop} {w':World} {h h':yG} {β1 β':uG} (hh:∀k e,h k=some e->h' k=some e/\β' k=β1 k) {v:AV} {c:Value} (hv:zY w' (xP Xc β1) h β1 v c):v.nosl=true->zY w' (xP X β') h' β' v c:=by
 induction hv with
 |fz v c hf=>exact λhn=> .fz _ _ (hf.free hn)
 |agg cs c hl h1 _ ih=>exact λhn=> .agg cs c hl h1 λi v hv=>ih i v hv (fK (by simpa [AV.nosl]using hn) hv)
 |fn f caps c hl _ ih=>exact λhn=> .fn f caps c hl λi v hv=>ih i v hv (fK (by simpa [AV.nosl]using hn) hv)
 |tup vs c hl _ ih=>exact λhn=> .tup vs c hl λi v hv=>ih i v hv (fK (by simpa [AV.nosl]using hn) hv)
 |dref k off len c hk h1=>exact λ_=> .dref _ _ _ _ (hh k _ hk).1 h1
 |dptr k i off c hk h1=>exact λ_=> .dptr _ _ _ _ (hh k _ hk).1 h1
 |ref k off len sz xs st b n cap hk hb hn hc hs=>exact λ_=> .ref k off len sz xs st b n cap (hh k _ hk).1 (by rw[(hh k _ hk).2];exact hb) hn hc hs
 |ref0 k off sz xs st a hk hn=>exact λ_=> .ref0 k off sz xs st a (hh k _ hk).1 hn
 |pbox k off cs b n hk hb=>exact λ_=> .pbox k off cs b n (hh k _ hk).1 (by rw[(hh k _ hk).2];exact hb)
 |parr k i off sz xs st b n hk hb hi ho=>exact λ_=> .parr k i off sz xs st b n (hh k _ hk).1 (by rw[(hh k _ hk).2];exact hb) hi ho
theorem TL.lift {w:World} {D D':Nat->Prop} {h h':yG} {β β':uG} {k:Nat} {e:xO} (hb:β' k=β k) (hv:∀cs,e= .box cs->∀(i:Nat) v c,cs[i]? =some v->zY w D h β v c->zY w D' h' β' v c)
  (hf:∀sz xs st,e= .arr sz xs st->∀(i:Nat) (x:AV) (j:Nat) v c,xs[i]? =some x->x.cells[j]? =some v->(xH w D v c->xH w D' v c)/\(st.nest=true->zY w D h β v c->zY w D' h' β' v c)) (H:TL w D h β k e):TL w D' h' β' k e:=by
 cases e with
 |dead=>exact hb.trans H
 |box cs=>
  obtain⟨b,c,el,h1,h2,h3,h4,h5⟩:=H;exact⟨b,c,el,hb.trans h1,h2,h3,h4,λi v hi=>hv cs Z i v _ hi (h5 i v hi)⟩
 |obj cs=>
  exact⟨hb.trans H.1,H.2⟩
 | arr sz xs st=>
  obtain⟨h1,h2,h3,h4,h5,f,h6,h7,h8⟩:=H
  exact⟨h1,h2,by rwa [hb],h4,by rwa [hb],f,λi x j v hx hv=>by
   obtain⟨q1,q2⟩:=hf sz xs st Z i x j v (f i j) hx hv
   cases hn:st.nest with
   |true=>exact⟨q2 hn (h6.toV i x j v hx hv),λh=>by cases h⟩
   |false=>exact⟨.fz _ _ (q1 (h6.toF hn i x j v hx hv)),λ_=>q1 (h6.toF hn i x j v hx hv)⟩,h7,by rwa [hb]⟩
theorem kZ {f:Nat} {x:Operand} {args:Array Operand} {ats:Array Nat} {caps as':List AV} {h0 h1:List (Nat×xO)} {r:AV} (hc:xR P f as' h0 r h1) (hx:yO (zG st.tm) x= .fn f caps)
  (has:(args.toList.map (yO (zG st.tm))++caps).map (qC (yX h0) (zD st.h))=as') (hh0:(yX h0).map (zD st.h)=(yX h0).map (zD h0)) (hcl:h0.all (λp=>clE (yX h0) p.2)=true)
  (hnb:((jG (args.toList.map (yO (zG st.tm))++caps)).all ((yX h0).contains ·)||(r.nosl&&KR h1))=true):
  wS P st (.call ⟨.value x,args,ats⟩) r h1 (yX h0++jG (args.toList.map (yO (zG st.tm))++caps)) ((yX h1).filter λk=>!(yX h0).contains k):=by
 refine⟨?_⟩;intro X tm h hg hr hn o a w β ho HH Ht;obtain⟨d0,o0,y0,p0,f0,g0⟩:=o;dsimp only at ho;subst ho;have hfv:=gA Ht hg (x:=x) qX hx
 obtain⟨cv,hfx,hcvl,hcv⟩:∃cv:Array Value,a.eval x= .func (.func f) #[] cv/\cv.size=caps.length/\∀(i:Nat) v,caps[i]? =some v->zY w (xP X β) h β v (cv.getD i undef):=by
  generalize a.eval x=cx at hfv
  cases hfv with
  |fz _ _ hf=>cases hf
  |fn _ _ c hl hh=>exact⟨c,rfl,hl,hh⟩
 have hrun:(execOp a.eval ⟨d0,.call ⟨.value x,args,ats⟩,y0,p0,f0,g0⟩).run P w= .ok (.enter f (args.map a.eval++cv)) w:=by
  have hab:=hc.able (args.map a.eval++cv) w;simp[execOp,resolve,hfx,Deferred.ofValue,invoke,hab]
 rw[hrun]
 have hK:∀k,k∈yX h0->h k=zD h0 k:=λk hk=>by
  rw[hr k (by simp[hk])];obtain⟨i,hi⟩:=yD9 hk;have:=yBa (·[i]?) hh0;simpa [hi]using this
 have hoff0:∀k,zD h0 k=none->¬k∈yX h0:=λk hk hm=>by
  obtain⟨e,he⟩:=bO hm;rw[hk]at he;cases he
 let βc:uG:=λk=>if k∈yX h0 then β k else []
 have hβc:∀k,k∈yX h0->βc k=β k:=λk hk=>by simp[βc,hk]
 have hβn:∀k,¬k∈yX h0->βc k=[]:=λk hk=>by simp[βc,hk]
 have hβm:∀k b n,(b,n)∈βc k->k∈yX h0/\(b,n)∈β k:=λk b n hm=>by
  by_cases hk:k∈yX h0
  ·rw[hβc k hk]at hm;exact⟨hk,hm⟩
  ·rw[hβn k hk]at hm;simp at hm
 let lent:Bool:=!(jG (args.toList.map (yO (zG st.tm))++caps)).all ((yX h0).contains ·)
 let Xc:Nat->Prop:=λb=>X b∨(lent=false/\∃k n,¬k∈yX h0/\(b,n)∈β k)
 have hDc:∀b,xP Xc βc b->xP X β b:=λb hd=>by
  rcases hd with(hx|⟨_,k,n,_,hm⟩)|⟨k,n,hm⟩
  ·exact .inl hx
  ·exact .inr ⟨k,n,hm⟩
  ·exact .inr ⟨k,n,(hβm k b n hm).2⟩
 have hclosed:∀k e,zD h0 k=some e->clE (yX h0) e=true:=λk e hk=>by
  obtain⟨p,hp,he⟩:=dN hk;have:=yAu.1 hcl p hp;rw[he]at this;exact this
 have hfrz:∀{v c},zY w (xP X β) h β v c->(∀k,k∈v.refs->k∈yX h0∨∀b n,(b,n)∈β k->¬xP Xc βc b)->zY w (xP Xc βc) (zD h0) βc (qC (yX h0) h v) c:=λhv hrf=>
  zY.fz0 HH (λk hk e he=>by
   rw[hK k hk]at he
   cases e with
   |box cs=>exact⟨cs,he⟩
   |obj cs=>exact⟨cs,he⟩
   |arr sz xs fl=>exact⟨xs,fl,he,rfl⟩
   |dead=>exact he) hβc (λb _ hd h'=>hd (hDc b h')) hv hrf
 have hclv:∀{v c},zY w (xP X β) h β v c->(∀k,k∈v.refs->k∈yX h0)->zY w (xP Xc βc) (zD h0) βc v c:=by
  intro v c hv;have ef:∀{v c},xH w (xP X β) v c->xH w (xP Xc βc) v c:=λhf=>hf.evo (yAg _) λb _ hd=>⟨rfl,λh'=>hd (hDc b h')⟩
  induction hv with
  |fz v c hf=>exact λ_=> .fz _ _ (ef hf)
  |agg cs c hl h1 _ ih=>exact λhr=> .agg cs c hl h1 λi v hv=>ih i v hv λk hk=>hr k (by simpa [AV.refs]using wR hv hk)
  |fn f caps c hl _ ih=>exact λhr=> .fn f caps c hl λi v hv=>ih i v hv λk hk=>hr k (by simpa [AV.refs]using wR hv hk)
  |tup vs c hl _ ih=>exact λhr=> .tup vs c hl λi v hv=>ih i v hv λk hk=>hr k (by simpa [AV.refs]using wR hv hk)
  |dref k off len c hk h1=>exact λhr=> .dref _ _ _ _ ((hK k (hr k (by simp[AV.refs])))▸hk) h1
  |dptr k i off c hk h1=>exact λhr=> .dptr _ _ _ _ ((hK k (hr k (by simp[AV.refs])))▸hk) h1
  |ref k off len sz xs st b n cap hk hb hn hc hs=>exact λhr=> .ref k off len sz xs st b n cap ((hK k (hr k (by simp[AV.refs])))▸hk) (by rw[hβc k (hr k (by simp[AV.refs]))];exact hb) hn hc hs
  |ref0 k off sz xs st a hk hn=>exact λhr=> .ref0 k off sz xs st a ((hK k (hr k (by simp[AV.refs])))▸hk) hn
  |pbox k off cs b n hk hb=>exact λhr=> .pbox k off cs b n ((hK k (hr k (by simp[AV.refs])))▸hk) (by rw[hβc k (hr k (by simp[AV.refs]))];exact hb)
  |parr k i off sz xs st b n hk hb hi ho=>exact λhr=> .parr k i off sz xs st b n ((hK k (hr k (by simp[AV.refs])))▸hk) (by rw[hβc k (hr k (by simp[AV.refs]))];exact hb) hi ho
 have Hc:jA Xc (zD h0) βc w:=by
  refine⟨λk e he=>?_,λk he=>hβn k (hoff0 k he),λk k' b n n' q1 q2=>HH.disj _ _ _ _ _ (hβm _ _ _ q1).2 (hβm _ _ _ q2).2,λk b n hm hx=>?_,λb hd=>HH.lt b (hDc b hd)⟩
  ·have hk:=uB he
   refine(HH.ent k e ((hK k hk).trans he)).lift (hβc k hk) (λcs hcs i v c hi hv=>hclv hv λj hj=>by
    have:=hclosed k e he;rw[hcs]at this
    simpa using yAu.1 this j (wR hi hj)) λsz xs fl hxs i x j v c hi hj=>⟨λhf=>hf.evo (yAg _) λb _ hd=>⟨rfl,λh'=>hd (hDc b h')⟩,λhn hv=>hclv hv λq hq=>by
    have:=hclosed k e he;rw[hxs]at this;simp only[clE,hn,yBx]at this
    simpa using yAu.1 this q (wR hi (VI hj hq))⟩
  ·obtain⟨hk,hm⟩:=hβm k b n hm
   rcases hx with hx|⟨_,k',n',hk',hm'⟩
   ·exact HH.free k b n hm hx
   ·exact hk' (HH.disj k k' b n n' hm hm'▸hk)
 have hargs:∀(i:Nat) v,(args.toList.map (yO (zG st.tm))++caps)[i]? =some v->zY w (xP X β) h β v ((args.map a.eval++cv).getD i undef):=λi v hi=>by
  rcases zPz (ρ:=a.eval) (yO (zG st.tm)) hcvl hi with⟨y,hy,rfl,he⟩|⟨j,hj,he⟩
  ·rw[he]
   exact gA Ht hg (by
    simp only[Op.operands,Call.operands,Array.mem_append]
    exact .inr hy) Z
  ·rw[he];exact hcv j v hj
 have hrefs:∀(i:Nat) v,(args.toList.map (yO (zG st.tm))++caps)[i]? =some v->∀k,k∈v.refs->k∈yX h0∨∀b n,(b,n)∈β k->¬xP Xc βc b:=λi v hi k hk=>by
  by_cases hk0:k∈yX h0
  ·exact .inl hk0
  ·refine .inr λb n hm hd=>?_
   have hlent:lent=true:=by
    cases hl:lent with
    |true=>rfl
    |false=>
     simp only[lent,Bool.not_eq_false']at hl;have:=yAu.1 hl k (wR hi hk);exact absurd zDt hk0
   rcases hd with(hx|⟨hf,_⟩)|⟨k',n',hm'⟩
   ·exact HH.free k b n hm hx
   ·rw[hlent]at hf;cases hf
   ·obtain⟨q1,q2⟩:=hβm k' b n' hm';exact hk0 (HH.disj k k' b n n' hm q2▸q1)
 have hfreq:∀(i:Nat) v,(args.toList.map (yO (zG st.tm))++caps)[i]? =some v->qC (yX h0) (zD st.h) v=qC (yX h0) h v:=by
  have main:∀v:AV,(∀k,k∈v.refs->h k=zD st.h k)->qC (yX h0) (zD st.h) v=qC (yX h0) h v:=by
   intro v
   refine AV.rec (motive_1:=λv=>(∀k,k∈v.refs->h k=zD st.h k)->qC (yX h0) (zD st.h) v=qC (yX h0) h v)
    (motive_2:=λcs=>(∀k,k∈jG cs->h k=zD st.h k)->wQ (yX h0) (zD st.h) cs=wQ (yX h0) h cs) ?_ ?_ ?_ ?_ ?_ ?_ ?_ ?_ ?_ ?_ ?_ ?_ ?_ ?_ v
   ·exact λ_=>rfl
   ·exact λ_ _=>rfl
   ·exact λ_ _=>rfl
   ·exact λcs ih hk=>by simp only[qC];rw[ih (by simpa [AV.refs]using hk)]
   ·exact λ_ _ _ _=>rfl
   ·exact λ_ _ _ _=>rfl
   ·exact λk off len hk=>by simp only[qC];rw[hk k (by simp[AV.refs])]
   ·exact λ_ _ _ _=>rfl
   ·exact λ_ _ _ _ _=>rfl
   ·exact λf cs ih hk=>by simp only[qC];rw[ih (by simpa [AV.refs]using hk)]
   ·exact λcs ih hk=>by simp only[qC];rw[ih (by simpa [AV.refs]using hk)]
   ·exact λ_ _ _=>rfl
   ·exact λ_=>rfl
   ·exact λv r ihv ihr hk=>by
     simp only[wQ];rw[ihv λk h=>hk k (by simp[jG,h]),ihr λk h=>hk k (by simp[jG,h])]
  exact λi v hi=>main v λk hk=>hr k (by simp[wR hi hk])
 have hsim:=hc.sim Xc w βc (args.map a.eval++cv) (by rw[<-has];simp[hcvl]) Hc (λi v hi=>by
  rw[<-has,yAi,yAq]at hi;obtain⟨u,hu,rfl⟩:=hi;rw[hfreq i u hu]
  exact hfrz (hargs i u hu) (hrefs i u hu))
 refine Calls.mono hsim ?_;rintro e w' ⟨c,β1,he,G,hv⟩;refine⟨c,he,?_⟩;have hlive:=G.lives Hc hc.nd
 let β':uG:=λk=>if(zD h1 k).isSome then β1 k else β k
 have hb1:∀k e,zD h1 k=some e->β' k=β1 k:=λk e hk=>by simp[β',hk]
 have hb2:∀k,zD h1 k=none->β' k=β k:=λk hk=>by simp[β',hk]
 have hin:∀k,k∈yX h0->∃e,zD h1 k=some e:=λk hk=>by
  obtain⟨e,he⟩:=bO hk
  rcases G.key k e he with h2|h2
  ·exact⟨_,h2⟩
  ·cases e with
   |dead=>exact h2.elim
   |box cs=>exact⟨_,h2.1.choose_spec⟩
   |obj cs=>exact⟨_,h2.1.choose_spec⟩
   |arr sz xs st=>obtain⟨xs',st',h3,_⟩:=h2.1;exact⟨_,h3⟩
 have hnew:∀k e,zD h1 k=some e->¬k∈yX h0->h k=none:=λk e hk hk0=>hn k (by
  simp only[yDz,yCz,List.contains_eq_mem,yAy]
  exact⟨uB hk,hk0⟩)
 have ov1:∀k e,zD h1 k=some e->over h1 h k=some e:=λk e hk=>by simp[over,hk]
 have ov2:∀k,zD h1 k=none->over h1 h k=h k:=λk hk=>by simp[over,hk]
 have hβ':∀k b n,(b,n)∈β' k->((∃e,zD h1 k=some e)/\(b,n)∈β1 k)∨(zD h1 k=none/\¬k∈yX h0/\(b,n)∈β k):=λk b n hm=>by
  cases hk:zD h1 k with
  |none=>rw[hb2 k hk]at hm;exact .inr ⟨rfl,(λh2=>by obtain⟨e,he⟩:=hin k h2;rw[hk]at he;cases he),hm⟩
  |some e=>rw[hb1 k e hk]at hm;exact .inl ⟨⟨e,rfl⟩,hm⟩
 have own1:∀k b n,(b,n)∈β1 k->(∃k' n',k'∈yX h0/\(b,n')∈β k')∨w.heap.size<=b:=λk b n hm=>by
  rcases G.own k b n hm with⟨k',n',h2⟩|h2
  ·obtain⟨q1,q2⟩:=hβm k' b n' h2;exact .inl ⟨k',n',q1,q2⟩
  ·exact .inr h2
 have keepK:∀b,b<w.heap.size->(∀k n,k∈yX h0->(b,n)∉β k)->w'.heap[b]? =w.heap[b]? :=λb hb hk=>G.keep b hb λk n hm=>by
  obtain⟨q1,q2⟩:=hβm k b n hm;exact hk k n q1 q2
 have keepO:∀k b n,¬k∈yX h0->(b,n)∈β k->w'.heap[b]? =w.heap[b]? :=λk b n hk hm=>keepK b (HH.lt b (.inr ⟨k,n,hm⟩)) λk' n' hk' hm'=>hk (HH.disj k k' b n n' hm hm'▸hk')
 have bs':∀k b n,(b,n)∈β k->wH w' b=wH w b:=λk b n hm=>by
  by_cases hk:k∈yX h0
  ·exact G.bs k b n (by rw[hβc k hk];exact hm)
  ·unfold wH World.shape?;rw[keepO k b n hk hm]
 have key':∀k e,h k=some e->over h1 h k=some .dead∨match e with
   | .dead=>False
   | .box _=>(∃cs',over h1 h k=some (.box cs'))/\∀b n,(b,n)∈β k->(b,n)∈β' k
   | .obj _=>(∃cs',over h1 h k=some (.obj cs'))/\∀b n,(b,n)∈β k->(b,n)∈β' k
   | .arr sz xs _=>(∃xs' st',over h1 h k=some (.arr sz xs' st')/\xs.length<=xs'.length)/\∀b n,(b,n)∈β k->∃n',n<=n'/\(b,n')∈β' k:=λk e he=>by
  by_cases hk:k∈yX h0
  ·have he0:=(hK k hk)▸he;have:=G.key k e he0;obtain⟨e1,he1⟩:=hin k hk;rw[he1]at this;rw[ov1 k e1 he1,hb1 k e1 he1,<-hβc k hk];exact this
  ·have hno:zD h1 k=none:=by
    cases h2:zD h1 k with
    |none=>rfl
    |some e1=>rw[hnew k e1 h2 hk]at he;cases he
   rw[ov2 k hno,hb2 k hno];exact kF h β k e he
 have own':∀k b n,(b,n)∈β' k->(∃k' n',(b,n')∈β k')∨w.heap.size<=b:=λk b n hm=>by
  rcases hβ' k b n hm with⟨_,h2⟩|⟨_,_,h2⟩
  ·rcases own1 k b n h2 with⟨k',n',_,h3⟩|h3
   ·exact .inl ⟨k',n',h3⟩
   ·exact .inr h3
  ·exact .inl ⟨k,n,h2⟩
 have keep':∀b,b<w.heap.size->(∀k n,(b,n)∉β k)->w'.heap[b]? =w.heap[b]? :=λb hb hk=>keepK b hb λk n _=>hk k n
 have E:FK w (xP X β) h β w' (xP X β') (over h1 h) β':=by
  refine⟨G.size,λb hb hd=>?_,bs',key'⟩;have q1:∀k n,(b,n)∉β k:=λk n hm=>hd (.inr ⟨k,n,hm⟩)
  refine⟨keep' b hb q1,?_⟩;rintro(hx|⟨k,n,hm⟩)
  ·exact hd (.inl hx)
  ·rcases own' k b n hm with⟨k',n',h2⟩|h2
   ·exact q1 _ _ h2
   ·omega
 have hup:∀k e,zD h1 k=some e->over h1 h k=some e/\β' k=β1 k:=λk e hk=>⟨ov1 k e hk,hb1 k e hk⟩
 have hDl:lent=false->∀b,xP X β' b->xP Xc β1 b:=λhl b hd=>by
  rcases hd with hx|⟨k,n,hm⟩
  ·exact .inl (.inl hx)
  ·rcases hβ' k b n hm with⟨_,h2⟩|⟨_,h2,h3⟩
   ·exact .inr ⟨k,n,h2⟩
   ·exact .inl (.inr ⟨hl,k,n,h2,h3⟩)
 have hcase:lent=false∨(r.nosl=true/\KR h1=true):=by
  rw[yC1]at hnb
  rcases hnb with h2|h2
  ·left;show(!(_:Bool))=false;rw[h2];rfl
  ·right;simpa using h2
 have hliftV:∀{v c},(lent=false∨v.nosl=true)->zY w' (xP Xc β1) (zD h1) β1 v c->zY w' (xP X β') (over h1 h) β' v c:=λhl hv=>by
  rcases hl with hl|hl
  ·exact zJt (h':=over h1 h) hup (λb hd _=> .inl (hDl hl b hd)) hv
  ·exact zFn hup hv hl
 have hliftF:∀{v c},(lent=false∨v.nosl=true)->xH w' (xP Xc β1) v c->xH w' (xP X β') v c:=λhl hv=>by
  rcases hl with hl|hl
  ·exact hv.evo (yAg _) λb _ hd=>⟨rfl,λh'=>hd (hDl hl b h')⟩
  ·exact hv.free hl
 have HK:jA X (over h1 h) β' w':=by
  refine⟨λk e he=>?_,λk he=>?_,λk k' b n n' q1 q2=>?_,λk b n hm hx=>?_,λb hd=>?_⟩
  ·cases hk:zD h1 k with
   |none=>
    rw[ov2 k hk]at he;have hk0:¬k∈yX h0:=λh2=>by obtain⟨e1,he1⟩:=hin k h2;rw[hk]at he1;cases he1
    exact(HH.ent k e he).evo E (hb2 k hk) λb n hm=>keepO k b n hk0 hm
   | some e1=>
    rw[ov1 k e1 hk]at he;obtain rfl:=yCr he;have hns:lent=false∨e1.nosl=true:=hcase.imp id λh2=>DK h2.2 hk
    refine(G.hok.ent k e1 hk).lift (hb1 k e1 hk) (λcs hcs i v c hi hv=>hliftV (hns.imp id λh2=>fK (by rw[hcs]at h2;exact h2) hi) hv) λsz xs st hxs i x j v c hi hj=>by
     have hns':lent=false∨v.nosl=true:=hns.imp id λh2=>by
      have hxn:x.nosl=true:=fK (by rw[hxs]at h2;exact h2) hi
      cases x<;>first
       |(simp[AV.cells]at hj;cases j<;>simp at hj;subst hj;exact hxn)
       |(exact fK (by simpa [AV.nosl,AV.cells]using hxn) hj)
     exact⟨λhf=>hliftF hns' hf,λ_ hv=>hliftV hns' hv⟩
  ·cases hk:zD h1 k with
   |none=>rw[ov2 k hk]at he;rw[hb2 k hk];exact HH.off k he
   |some e1=>rw[ov1 k e1 hk]at he;cases he
  ·rcases hβ' k b n q1 with⟨_,h2⟩|⟨_,h2,h3⟩<;>rcases hβ' k' b n' q2 with⟨_,h4⟩|⟨_,h4,h5⟩
   ·exact G.hok.disj _ _ _ _ _ h2 h4
   ·rcases own1 k b n h2 with⟨j,m,hj,hm⟩|h6
    ·exact absurd (HH.disj j k' b m n' hm h5▸hj) h4
    ·have:=HH.lt b (.inr ⟨k',n',h5⟩);omega
   ·rcases own1 k' b n' h4 with⟨j,m,hj,hm⟩|h6
    ·exact absurd (HH.disj j k b m n hm h3▸hj) h2
    ·have:=HH.lt b (.inr ⟨k,n,h3⟩);omega
   ·exact HH.disj _ _ _ _ _ h3 h5
  ·rcases hβ' k b n hm with⟨_,h2⟩|⟨_,_,h3⟩
   ·exact G.hok.free k b n h2 (.inl hx)
   ·exact HH.free k b n h3 hx
  ·rcases hd with hx|⟨k,n,hm⟩
   ·exact yBo (HH.lt b (.inl hx)) G.size
   ·rcases hβ' k b n hm with⟨_,h2⟩|⟨_,_,h3⟩
    ·exact G.hok.lt b (.inr ⟨k,n,h2⟩)
    ·exact yBo (HH.lt b (.inr ⟨k,n,h3⟩)) G.size
 exact⟨β',⟨G.size,keep',own',bs',key',HK,G.os,G.tape,G.output⟩,hliftV (hcase.imp id (·.1)) hv⟩
def zI {f:Nat} {x:Operand} {args:Array Operand} {ats:Array Nat} {caps as':List AV} {h0 h1:List (Nat×xO)} {r:AV} (hc:xR P f as' h0 r h1) (hx:yO (zG st.tm) x= .fn f caps)
  (has:(args.toList.map (yO (zG st.tm))++caps).map (zZm (yX h0) (zD st.h))=as') (hh0:(yX h0).map (zD st.h)=(yX h0).map (zD h0)) (hcl:h0.all (λp=>clE (yX h0) p.2)=true)
  (hnb:((jG (args.toList.map (yO (zG st.tm))++caps)).all ((yX h0).contains ·)||(r.nosl&&KR h1))=true):
  wS P st (.call ⟨.value x,args,ats⟩) r h1 (yX h0++jG (args.toList.map (yO (zG st.tm))++caps)) ((yX h1).filter λk=>!(yX h0).contains k):=
 kZ (hc:=⟨hc.able,hc.nd,λX w β cargs hl H ha=>hc.sim X w β cargs (by rw[hl,<-has];simp) H λi v hi=>by
  rw[<-has,yAi,yAq]at hi;obtain⟨u,hu,rfl⟩:=hi
  exact(ha i _ (by rw[yAi,hu];rfl)).wk⟩) hx Z hh0 hcl hnb
end
section
section ops
variable {P:Program} {K0:List Nat} {F:Fr K0} {m:Nat} {ops:Array Oper} {rest:List Oper} {Q:St->Prop} {tm:List (Nat×AV)} {h:List (Nat×xO)}
def zP0 {st:St} (hq:Q st):FJ P F m ops [] st Q:=λ_ _ H=>⟨rfl,st,hq,H⟩
def zJu {o:Oper} {st:St} {v:AV} {d:List (Nat×xO)} {r nw:List Nat} {st':St} (hg:o.guard=none) (hs:wS P st o.op v d r nw) (hn:∀k,k∈nw->zD st.h k=none) (hd:vT d=true) (hm:∀t,o.dst=some t->t<m)
  (he:∀t,zG st'.tm t=if o.dst=some t then v else zG st.tm t) (hh:zD st'.h=over d (zD st.h)) (hk:FJ P F m ops rest st' Q):FJ P F m ops (o::rest) st Q:=λa w H=>
 wpListIn_plain hg λK hK=>hs.rel H (λ_ _=>rfl) (λ_ _=>rfl) hn hd hm λa' w' H'=>hK _ _ (hk a' w' (by
  have e1:zG st'.tm=λt=>if o.dst=some t then v else zG st.tm t:=funext he
  unfold wN;rw[e1,hh]
  exact H'))
section
variable {op:Op} {ty:Nat} {pos:String} {after:Array Edge} {t:Nat} {v:AV} {r nw:List Nat}
end
def UZ (ops:Array Oper) (j:Nat):Option Nat:=(ops[j]?).bind (·.dst)
def gw (v:Value) (b:Bool):Bool:=match v with
 | .bool c=>c==b
 |_=>false
def aM {o:Oper} {j t:Nat} {b:Bool} {v:Value} (hg:o.guard=some (j,b)) (ht:UZ ops j=some t) {a:Act} (hv:a.eval (.tmp t)=v):Region.wanted o (yielded ops a.tmps)=gw v b:=by
 subst hv;simp only[Region.wanted,hg,yielded,show(ops[j]?).bind (·.dst)=some t from ht,Option.bind_some,Act.eval,yBh]
 cases h:a.tmps[t]? with
 |none=>simp[undef,gw]
 |some u=>cases u<;>simp[gw]
def DL {st:St} {a:Act} {w:World} (H:wN F m st a w) {t:Nat} {c:Value} (hv:zG st.tm t= .s c):a.eval (.tmp t)=c:=by
 obtain⟨⟨_,β,_,_,Ht,_⟩,_⟩:=H;have:=Ht t;rw[hv]at this;exact this.s_inv
def zU6 {d:Option Nat} {op:Op} {ty:Nat} {pos:String} {after:Array Edge} {j t:Nat} {b:Bool} {st:St} (ht:UZ ops j=some t) (hv:zG st.tm t= .s (.bool b)) (hk:FJ P F m ops (⟨d,op,ty,pos,after,none⟩::rest) st Q):
  FJ P F m ops (⟨d,op,ty,pos,after,some (j,b)⟩::rest) st Q:=λa w H=>by
 have hw:=aM (o:=⟨d,op,ty,pos,after,some (j,b)⟩) Z ht (DL H hv);have:=hk a w H;unfold wpListIn at this⊢;rw[yAd (by rw[hw];simp[gw])];rw[yAd (by simp[Region.wanted])]at this;exact this
theorem VG.bot {tm:Nat->AV} {h:yG} {a:Act} {w:World} (H:VG F m tm h a w) (dst:Option Nat) (hm:∀t,dst=some t->t<m):VG F m (λt=>if dst=some t then .s undef else tm t) h (a.put dst undef) w:=by
 obtain⟨⟨X,β,hX,HH,Ht,KK,hJ,hD⟩,nd,gs,hl⟩:=H;exact VG.put hX HH Ht KK hJ hD gs hl (xN.refl HH) nd (.fz _ _ (.s _)) dst hm
def zP1 {d:Nat} {op:Op} {ty:Nat} {pos:String} {after:Array Edge} {j t:Nat} {b:Bool} {c:Value} (ht:UZ ops j=some t) (hv:zG tm t= .s c) (hc:gw c b=false) (hm:Nat.blt d m=true) (hk:FJ P F m ops rest ⟨(d,.s undef)::tm,h⟩ Q):
  FJ P F m ops (⟨some d,op,ty,pos,after,some (j,b)⟩::rest) ⟨tm,h⟩ Q:=λa w H=>by
 have hw:=aM (o:=⟨some d,op,ty,pos,after,some (j,b)⟩) Z ht (DL H hv);unfold wpListIn;rw[yAc (by rw[hw,hc];simp)];refine⟨λ_ _=>trivial,hk _ _ ?_⟩;have:=VG.bot H (some d) (λj hj=>by cases hj;exact yAv hm)
 have e1:zG ((d,.s undef)::tm)=λt=>if some d=some t then AV.s undef else zG tm t:=funext λt=>by rw[yT];simp[eq_comm]
 unfold wN;rw[e1];exact this
def DM {st:St} {l:List Oper} {t:Nat} {c c':Bool} (hv:zG st.tm t= .s (.bool c)) (hc:c=c') (hk:FJ P F m ops l ⟨(t,.s (.bool c'))::st.tm,st.h⟩ Q):FJ P F m ops l st Q:=λa w H=>hk a w (by
 subst hc
 have e1:zG ((t,.s (.bool c))::st.tm)=zG st.tm:=funext λj=>by
  rw[yT];split
  ·rename_i h;subst h;exact hv.symm
  ·rfl
 unfold wN;dsimp only;rw[e1]
 exact H)
def zFo {st:St} {l:List Oper} {t:Nat} {c:Bool} (hv:zG st.tm t= .s (.bool c)) (h1:c=true->FJ P F m ops l ⟨(t,.s (.bool true))::st.tm,st.h⟩ Q) (h2:c=false->FJ P F m ops l ⟨(t,.s (.bool false))::st.tm,st.h⟩ Q):FJ P F m ops l st Q:=by
 cases c with
 |true=>exact DM hv Z (h1 Z)
 |false=>exact DM hv Z (h2 Z)
end ops
section code
variable {P:Program} {K0:List Nat} {F:Fr K0} {m:Nat} {Q:Exit->St->Prop} {st:St}
def jS {c:Code} (K ts:List Nat) (hK:K0.all (K.contains ·)=true) {st':St} (he:restr K ts st=st') (h:vZ P F m c st' Q):vZ P F m c st Q:=⟨λa w H=>h.run a w (he▸wN.restr H K ts hK)⟩
def vB {c:Code} (I:Nat->St->Prop) (n:Nat) (K ts:List Nat) (hK:K0.all (K.contains ·)=true) (h0:I n (restr K ts st)) (round:∀n st,I n st->vZ P F m c st (λe s=>match e with
  | .normal=>∃n',n'<n/\I n' (restr K ts s)
  |e=>Q e s)):vZ P F m (.loop c) st Q:=by
 refine jS K ts hK Z ⟨λa w H=>?_⟩;refine QX (λn a w=>∃st,I n st/\wN F m st a w) n ⟨_,h0,H⟩ λn a w ⟨st,hI,hR⟩=>?_
 refine Code.wpIn_mono (λe a' w' ⟨s,h1,h2⟩=>?_) ((round n st hI).run a w hR)
 cases e with
 |normal=>
  obtain⟨n',hlt,hI'⟩:=h1;exact⟨n',hlt,_,hI',wN.restr h2 K ts hK⟩
 |_=>exact⟨s,h1,h2⟩
end code
def LR (TT:List TI) (st:St):List ResultVar->Option (List AV)
 | []=>some []
 | .tmp t::r=>(LR TT st r).map (zG st.tm t:: ·)
 | .cell a T::r=>match zG st.tm a with
  | .ptr k 0 off=>match zD st.h k,TT[T]? with
   |some (.box cs),some ti=>match ldv ti.d.agg ti.size cs off with
    |some v=>(LR TT st r).map (v:: ·)
    |none=>none
   |_,_=>none
  |_=>none
def DN:List AV->AV
 | [v]=>v
 |vs=> .tup vs
def zJv (tmps:Array Value):ResultVar->Sem Value
 | .tmp t=>pure (tmps.getD t undef)
 | .cell b t=>do loadVar t (<-asAddr (tmps.getD b undef))
theorem NQ {P:Program} {TT:List TI} (hP:uJ P TT) {st:St} {X:Nat->Prop} {β:uG} {w:World} {a:Act} (H:jA X (zD st.h) β w) (Ht:∀t,zY w (xP X β) (zD st.h) β (zG st.tm t) (a.eval (.tmp t))):
  ∀(l:List ResultVar) (vs:List AV),LR TT st l=some vs->∃cs:List Value,(l.mapM (zJv a.tmps)).run P w= .ok cs w/\cs.length=vs.length/\
   ∀(i:Nat) v,vs[i]? =some v->zY w (xP X β) (zD st.h) β v (cs.getD i undef)
 | [],vs,h=>by cases h;exact⟨[],rfl,rfl,λi v hv=>by simp at hv⟩
 | .tmp t::r,vs,h=>by
  simp only[LR,yAq]at h;obtain⟨vs',h1,rfl⟩:=h;obtain⟨cs,h2,h3,h4⟩:=NQ hP H Ht r vs' h1;refine⟨a.tmps.getD t undef::cs,by simp only[yGe,zJv,Sem.run_bind,Sem.run_pure,Result.andThen_ok,h2],by simp[h3],λi v hv=>?_⟩
  cases i with
  |zero=>simp at hv;subst hv;exact Ht t
  |succ i=>simpa using h4 i v DU
 | .cell b T::r,vs,h=>by
  simp only[LR]at h;split at h
  ·rename_i k off hb;split at h
   ·rename_i cs ti hk hT;split at h
    ·rename_i v hv;rw[yAq]at h;obtain⟨vs',h1,rfl⟩:=h;obtain⟨cs',h2,h3,h4⟩:=NQ hP H Ht r vs' h1;have hp:=Ht b;rw[hb]at hp;obtain⟨bl,hc,_,hR⟩:=OC H hk hp;obtain⟨c,h5,h6⟩:=HV hP hT hR hv;rw[yBv]at h5;have hc':a.tmps.getD b undef= .pointer (some ⟨bl,off,none⟩):=hc;refine⟨c::cs',by simp only[yGe,zJv,Sem.run_bind,hc',asAddr,Sem.run_pure,Result.andThen_ok,h5,h2],by simp[h3],λi v hv=>?_⟩
     cases i with
     |zero=>simp at hv;subst hv;exact h6
     |succ i=>simpa using h4 i v DU
    ·cases h
   ·cases h
  ·cases h
def TA:Nat->List AV->List (Nat×AV)
 |_,[]=>[]
 |i,v::r=>(i,v)::TA (i+1) r
theorem VJ:∀(l:List AV) (i t:Nat),zG (TA i l) t=if i<=t then l.getD (t-i) .bot else .bot
 | [],i,t=>by simp[TA,zG]
 | v::r,i,t=>by
  rw[TA,yT,VJ r];by_cases h:t=i
  ·subst h;simp
  ·rw[yAc h];by_cases h2:i<=t
   ·rw[yAd h2,yAd (by omega),show t-i=(t-(i+1))+1 by omega];simp
   ·rw[yAc h2,yAc (by omega)]
def Fin (TT:List TI) (rs:List ResultVar) (h0:List (Nat×xO)) (r:AV) (h1:List (Nat×xO)) (e:Exit) (st:St):Prop:=
 (e= .normal∨e= .ret)/\∃vs K,LR TT st rs=some vs/\(yX h0).all (K.contains ·)=true/\(r=wP K (zD st.h) (DN vs)∨r=VH (wP K (zD st.h) (DN vs)))/\zD h1=zD (wX K (zD st.h))
def zH {TT:List TI} {rs:List ResultVar} {h0:List (Nat×xO)} {r:AV} {h1:List (Nat×xO)} {st:St} {vs:List AV} (K:List Nat) (h:LR TT st rs=some vs) (hK:(yX h0).all (K.contains ·)=true) (hr:VH (wP K (zD st.h) (DN vs))=r) (hh:wX K (zD st.h)=h1):
 Fin TT rs h0 r h1 .ret st:=⟨.inr Z,vs,K,h,hK,.inr hr.symm,by rw[hh]⟩
def zK {TT:List TI} {rs:List ResultVar} {h0:List (Nat×xO)} {r:AV} {h1:List (Nat×xO)} {st:St} {vs:List AV} (K:List Nat) (h:LR TT st rs=some vs) (hK:(yX h0).all (K.contains ·)=true) (hr:wP K (zD st.h) (DN vs)=r) (hh:wX K (zD st.h)=h1):
 Fin TT rs h0 r h1 .ret st:=⟨.inr Z,vs,K,h,hK,.inl hr.symm,by rw[hh]⟩
theorem xH.less {w:World} {D D':Nat->Prop} (h:∀b,D' b->D b) {v:AV} {c:Value} (hv:xH w D v c):xH w D' v c:=
 hv.evo (yAg _) λb _ hd=>⟨rfl,λh'=>hd (h b h')⟩
theorem zY.less {w:World} {X X':Nat->Prop} {h:yG} {β:uG} (hX:∀b,X' b->X b) {v:AV} {c:Value} (hv:zY w (xP X β) h β v c):zY w (xP X' β) h β v c:=
 hv.evo ⟨yAg _,λb _ hd=>⟨rfl,λh'=>hd (h'.imp (hX b) id)⟩,λ_ _ _ _=>rfl,kF h β⟩
theorem jA.less {w:World} {X X':Nat->Prop} {h:yG} {β:uG} (hX:∀b,X' b->X b) (H:jA X h β w):jA X' h β w:=
 ⟨λk e he=>(H.ent k e he).evo ⟨yAg _,λb _ hd=>⟨rfl,λh'=>hd (h'.imp (hX b) id)⟩,λ_ _ _ _=>rfl,kF h β⟩ rfl λ_ _ _=>rfl,H.off,H.disj,λk b n hm hx=>H.free k b n hm (hX b hx),λb hd=>H.lt b (hd.imp (hX b) id)⟩
def TB {w w':World} {X:Nat->Prop} {h:yG} {β:uG} (H:jA X h β w) (hs:w.heap.size<=w'.heap.size) (hk:∀b,b<w.heap.size->¬X b->w'.heap[b]? =w.heap[b]?):FK w (xP X β) h β w' (xP X β) h β:=
 ⟨hs,λb hb hd=>⟨hk b hb λhx=>hd (.inl hx),hd⟩,λk b n hm=>by
  unfold wH World.shape?
  rw[hk b (H.lt b (.inr ⟨k,n,hm⟩)) (H.free k b n hm)],kF h β⟩
theorem jA.turn {w w':World} {X:Nat->Prop} {h:yG} {β:uG} (H:jA X h β w) (hs:w.heap.size<=w'.heap.size) (hk:∀b,b<w.heap.size->¬X b->w'.heap[b]? =w.heap[b]?):jA X h β w':=
 ⟨λk e he=>(H.ent k e he).evo (TB H hs hk) Z λb n hm=>hk b (H.lt b (.inr ⟨k,n,hm⟩)) (H.free k b n hm),H.off,H.disj,H.free,λb hd=>yBo (H.lt b hd) hs⟩
theorem TC {P:Program} {fn:Func} {tmps:Array Value} {R:Ending->World->Prop}:∀(bs:List Nat) (w:World),bs.Nodup->(∀b,b∈bs->w.heap[b]? =some (.deferred (some [])))->
  (∀w',w'.heap.size=w.heap.size->(∀b,¬b∈bs->w'.heap[b]? =w.heap[b]?)->w'.os=w.os->w'.tape=w.tape->w'.output=w.output->∃v,(results fn tmps).run P w'= .ok v w'/\R (.returned v) w')->
  LeavesInM Fence.wide 0 P fn tmps R (bs.map λb=>{target:= .collected b,args:= #[]}) .returning w
 | [],w,_,_,h=>h w Z (λ_ _=>rfl) Z Z Z
 |b::bs,w,hn,hb,h=>by
  have hn':=List.nodup_cons.1 hn;refine⟨by simp,.inl ⟨b,w.putObj b (.deferred none),rfl,run_takeDeferred (hb b zS),TC bs _ hn'.2 (λc hc=>?_) (λw' h1 h2 h3 h4 h5=>?_)⟩⟩
  ·rw[World.putObj_heap_other (show c≠b from λe=>hn'.1 (by rw[<-e];exact hc))];exact hb c (by simp[hc])
  ·refine h w' (by rw[h1];simp) (λc hc=>?_) h3 h4 h5;simp at hc;rw[h2 c hc.2,World.putObj_heap_other hc.1]
theorem VK {P:Program} {TT:List TI} (hP:uJ P TT) {f:Nat} {fn:Func} {body:Code} {args:List AV} {h0:List (Nat×xO)} {r:AV} {h1:List (Nat×xO)} (hf:P.funcs[f]? =some fn) (hb:fn.body=some body) (able:bN P f) (hlen:Nat.ble args.length fn.ntmps=true)
    (hnd:vT h0=true) (hnd1:vT h1=true) (h:∀F:Fr (yX h0),F.ro=none/\F.it=false->vZ P F fn.ntmps body ⟨TA 0 args,h0⟩ (Fin TT fn.results.toList h0 r h1)) (hgs:Nat.ble fn.ntmps GS=true:=by rfl):xR P f args h0 r h1:=by
  refine⟨able,λk=>uV hnd1,λX w β cargs hcl H hargs=>(callsIn_wide (n:=0)).1 ?_⟩;have hlen:=yAv hlen
  let F:Fr (yX h0):=⟨X,w,β,zD h0,λk b n hm=>by
    cases hk:zD h0 k with
    |none=>rw[H.off k hk]at hm;simp at hm
    |some e=>exact uB hk,λk e he=>uB he,none,false,λ_=>False,λ_ _ _ _=>True,λ_ _ _ _ _ _ _ _ _ _ _ _ _ _=>trivial⟩
  refine callsIn_of_wp_marks (F:=Fence.wide) (n:=0) hf hb trivial (Code.wpIn_mono (λe a' w1 q=>?_) ((h F ⟨rfl,rfl⟩).run _ w ⟨⟨X,β,⟨λ_ h=>h,λ_ h=> .inl h⟩,H,λt=>?_,⟨λk e he=>?_,yAg _,λ_ _ _ _=>rfl,λk b n hm=> .inl ⟨k,n,hm⟩,λk b n hm=>⟨n,yAg _,hm⟩,λ_ _ _ _=>rfl,rfl,rfl,rfl⟩,λ_ _=>trivial,[],rfl,λ_=>rfl,yFu,λb hb=>by simp at hb⟩,λk=>uV hnd,yAv hgs,by simp;omega⟩)) Z
  · obtain ⟨st,⟨he,vs,K,hv,hK,hr,hh⟩,R⟩:=q;obtain⟨⟨X2,β2,⟨hX2,_⟩,H2',Ht2',KK',_,bs,hds,_,hbn,hbs⟩,nd2,_,hl2⟩:=R
    have goal:LeavesInM Fence.wide 0 P fn a'.tmps (λe w'=>∃c β',e= .returned c/\xN X w (zD h0) β w' (zD h1) β'/\zY w' (xP X β') (zD h1) β' r c) a'.defers .returning w1:=by
     rw[hds];refine TC bs w1 hbn (λb hb=>(hbs b hb).2.2) λw' sz kp o1 o2 o3=>?_
     have kp':∀b,b<w1.heap.size->¬X2 b->w'.heap[b]? =w1.heap[b]? :=λb _ hx=>kp b λhm=>hx (hbs b hm).1
     have H2:=H2'.turn (yCf sz.symm) kp';have Ht2:=λt=>(Ht2' t).evo (TB H2' (yCf sz.symm) kp')
     have KK:gH F (zD st.h) β2 w':=⟨KK'.knd,by rw[sz];exact KK'.size,λb hb hi hn=>by rw[kp b λhm=>by have:=(hbs b hm).2.1;omega];exact KK'.keep b hb hi hn,KK'.own,KK'.pas,λk b n hm=>by
      rw[<-KK'.bs k b n hm];obtain⟨n',_,hm'⟩:=KK'.pas k b n hm;unfold wH World.shape?
      rw[kp' b (H2'.lt b (.inr ⟨k,n',hm'⟩)) (H2'.free k b n' hm')],o1.trans KK'.os,o2.trans KK'.tape,o3.trans KK'.output⟩
     obtain⟨cs,q1,q2,q3⟩:=NQ hP H2 Ht2 _ _ hv;obtain⟨H3',hv3'⟩:=H2.restr K;have H3:=H3'.less hX2;have hv3:=λv c hv=>(hv3' v c hv).less hX2
     have hrun:∃c,(results fn a'.tmps).run P w'= .ok c w'/\zY w' (xP X2 β2) (zD st.h) β2 (DN vs) c:=by
       have hm:(fn.results.mapM (zJv a'.tmps)).run P w'= .ok cs.toArray w':=by
         rw[<-Array.toArray_toList (xs:=fn.results),List.mapM_toArray];simp only[Sem.run_map,q1,Result.andThen_ok]
       have hres:(results fn a'.tmps).run P w'= .ok (if h:cs.toArray.size=1 then cs.toArray[0]else .tuple cs.toArray) w':=by
         show(fn.results.mapM (zJv a'.tmps) >>= λvs=>pure (if h:vs.size=1 then vs[0]else .tuple vs)).run P w'=_
         rw[Sem.run_bind,hm];rfl
       refine⟨_,hres,?_⟩;by_cases h1:cs.length=1
       · rw[yFo DX]
         match cs,vs,h1,q2,q3 with
         | [c],[v],_,_,q3=>exact q3 0 v Z
       · rw[dif_neg DX]
         have hvs:DN vs= .tup vs:=by
           match vs,q2 with
           | [],_=>rfl
           | [v],q2=>exact absurd q2 h1
           |_::_::_,_=>rfl
         rw[hvs];exact .tup vs _ (by simpa using q2) λi v hi=>by simpa [List.getD]using q3 i v hi
     obtain⟨c,hc1,hc2⟩:=hrun
     have hpost:∃c β',Ending.returned c= .returned c/\(results fn a'.tmps).run P w'= .ok c w'/\xN X w (zD h0) β w' (zD h1) β'/\zY w' (xP X β') (zD h1) β' r c:=by
       refine⟨c,λk=>if k∈K then β2 k else [],rfl,hc1,?_,?_⟩
       · rw [hh];refine⟨KK.size,λb hb hn=>KK.keep b hb (λhf=>hf) hn,λk b n hm=>?_,KK.bs,λk e he=> .inr ?_,H3,KK.os,KK.tape,KK.output⟩
         · (try dsimp only at hm)
           split at hm
           · exact KK.own k b n hm
           · simp at hm
         · have hkK:k∈K:=by
             have:=yAu.1 hK k (uB he);simpa using this
           have h1:=KK.knd k e he;have hrr:∀e',zD st.h k=some e'->zD (wX K (zD st.h)) k=some (qW K (zD st.h) e'):=λe' h2=>by rw[xY,yAd hkK,h2];rfl
           cases e with
           |dead=>exact h1
           | box cs0=>
             obtain⟨cs',h2⟩:=h1;refine⟨⟨_,hrr _ h2⟩,λb n hm=>?_⟩
             (try dsimp only)
             rw[yAd hkK];obtain⟨n',hn',hm'⟩:=KK.pas k b n hm;obtain⟨b2,_,_,e2,_⟩:=H2.ent k _ h2;obtain⟨b1,_,_,e1,_⟩:=H.ent k _ he;rw[e1]at hm;rw[e2]at hm'⊢;simp at hm hm'⊢;exact⟨hm'.1,hm.2⟩
           | obj cs=>
             obtain⟨cs',h2⟩:=h1;refine⟨⟨_,hrr _ h2⟩,λb n hm=>?_⟩
             (try dsimp only)
             rw[yAd hkK];obtain⟨n',hn',hm'⟩:=KK.pas k b n hm;have e2:=(H2.ent k _ h2).1;have e1:=(H.ent k _ he).1;rw[e1]at hm;rw[e2]at hm'⊢;simp at hm hm'⊢;exact⟨hm'.1,hm.2⟩
           | arr sz xs sl=>
             obtain⟨xs',sl',h2,h3⟩:=h1;obtain⟨xs2,fl2,h4,h5⟩:=hH K (zD st.h) sz xs' sl';refine⟨⟨xs2,fl2,(hrr _ h2).trans (by rw[h4]),by rw[h5];exact h3⟩,λb n hm=>?_⟩
             (try dsimp only)
             rw[yAd hkK];exact KK.pas k b n hm
       · rw[hh]
         rcases hr with rfl|rfl
         · exact hv3 _ _ hc2
         · exact(hv3 _ _ hc2).wk
     obtain⟨c,β',_,hc1,hc2,hc3⟩:=hpost;exact⟨c,hc1,c,β',rfl,hc2,hc3⟩
    rcases he with rfl|rfl
    · exact goal
    · exact goal
  · show zY w (xP X β) (zD h0) β (zG (TA 0 args) t) _
    rw[VJ,yAd (yAt _),yFf];by_cases ht:t<args.length
    · have h2:args[t]? =some (args.getD t .bot):=by simp[List.getD,ht]
      have:=hargs t _ h2
      have e:Act.eval {tmps:=cargs++Array.replicate (fn.ntmps-cargs.size) undef,defers:=[]} (.tmp t)=cargs.getD t undef:=by
        simp only[Act.eval,yBh];rw[yCi (by omega)]
      rw[e];exact this
    · have:args.getD t .bot= .bot:=by simp[List.getD,yA1 (by omega:args.length<=t)]
      rw[this];exact .fz _ _ (.bot _)
  · have he':zD h0 k=some e:=he
    cases e with
    |dead=>exact absurd he' (uV hnd)
    |box cs=>exact⟨cs,he'⟩
    |obj cs=>exact⟨cs,he'⟩
    |arr sz xs sl=>exact⟨xs,sl,he',yAg _⟩
end
def fU (l:Array Bool) (i:Nat):Bool:=l.getD i false
def binds (e:Edge):Bool:=Region.binds .any e
def zP2 (ops:Array Oper):Bool:=(List.range ops.size).all λi=>((ops[i]?).map λo=>o.after.all λe=>!binds e||decide (e.on<i)).getD false
def zP3 (T:List Nat):List Edge->Nat->Nat
 | [],m=>m
 |e::r,m=>zP3 T r (bif binds e then m ||| (2 ^ e.on ||| T.getD e.on 0)else m)
def zSl:List Oper->List Nat->List Nat
 | [],T=>T
 |o::r,T=>zSl r (T++[zP3 T o.after.toList 0])
def LS (ops:List Oper):List Nat:=zSl ops []
def okT (ops:Array Oper) (T:List Nat):Bool:=
 (List.range ops.size).all λi=>((ops[i]?).map λo=>Nat.beq (T.getD i 0) (zP3 T o.after.toList 0)).getD false
def bit (T:List Nat) (i j:Nat):Bool:=(T.getD i 0).testBit j
theorem DO (T:List Nat) (j:Nat):∀(l:List Edge) (m:Nat),(zP3 T l m).testBit j=true->m.testBit j=true∨∃e,e∈l/\binds e=true/\(e.on=j∨bit T e.on j=true)
 | [],m,h=> .inl h
 | e::r,m,h=>by
  rcases DO T j r _ h with h1|⟨e',h1,h2,h3⟩
  ·cases hb:binds e with
   |false=>rw[hb]at h1;exact .inl h1
   |true=>
    rw[hb,yBx,yGg,yGg,Nat.testBit_two_pow,yC1,yC1]at h1
    rcases h1 with h1|h1|h1
    ·exact .inl h1
    ·exact .inr ⟨e,by simp,hb,.inl DX⟩
    ·exact .inr ⟨e,by simp,hb,.inr h1⟩
  ·exact .inr ⟨e',by simp[h1],h2,h3⟩
def TE (l:Array Bool) (i j:Nat) (hi:i<l.size):fU (l.setIfInBounds i true) j=if j=i then true else fU l j:=by
 unfold fU;by_cases e:j=i
 ·subst e;simp[yBh,hi]
 ·rw[yAc e];simp only[yBh,Array.getElem?_setIfInBounds_ne (Ne.symm e)]
def cnt (p:Nat->Bool):Nat->Nat
 |0=>0
 |k+1=>cnt p k+if p k then 1 else 0
def zFp {p q:Nat->Bool} (n:Nat) (h:∀i,i<n->p i=q i):cnt p n=cnt q n:=by
 induction n with
 |zero=>rfl
 |succ n ih=>unfold cnt;rw[ih λi hi=>h i (by omega),h n (by omega)]
def zU7 (p:Nat->Bool) (n:Nat):cnt p n<=n:=by
 induction n with
 |zero=>exact yAg _
 |succ n ih=>unfold cnt;split<;>omega
def zDj {p q:Nat->Bool} (n i:Nat) (hi:i<n) (hp:p i=false) (h:∀j,j≠i->q j=p j):cnt q n=cnt p n+if q i then 1 else 0:=by
 induction n with
 |zero=>omega
 |succ n ih=>
  unfold cnt;by_cases e:i=n
  ·subst e;rw[zFp (q:=p) i λj hj=>h j (by omega),hp];simp
  ·rw[ih (by omega),h n (λe'=>e e'.symm)];omega
section
variable {ops:Array Oper} {T:List Nat}
def HG (hA:zP2 ops=true) (hT:okT ops T=true) {l:Array Bool} (hd:∀i o,ops[i]? =some o->fU l i=true->∀e∈o.after,binds e=true->fU l e.on=true):
  ∀(n i:Nat) (o:Oper),i<n->ops[i]? =some o->(∀e∈o.after,binds e=true->fU l e.on=true)->∀j,bit T i j=true->fU l j=true:=by
 intro n
 induction n with
 |zero=>intro i o h;omega
 | succ n ih=>
  intro i o hin ho he j hj;have hi:i<ops.size:=(yC4.1 ho).1;have h1:=yAu.1 hT i (yA2.2 hi);simp only[ho,Option.map_some,yCh]at h1;unfold bit at hj;rw[yBd h1]at hj
  rcases DO T j _ _ hj with h2|⟨x,hx,hb,h2⟩
  ·simp at h2
  have hm:x∈o.after:=by simpa using hx
  have hl:=he _ hm hb
  rcases h2 with h2|h2
  ·rw[<-h2];exact hl
  ·have h3:=yAu.1 hA i (yA2.2 hi);obtain⟨y,hy,rfl⟩:=Array.getElem_of_mem hm;simp only[ho,Option.map_some,yCh,yF0,yC1,yCz,yAm]at h3;have h4:o.after[y].on<i:=(h3 y hy).resolve_left (by rw[hb];simp);have h5:o.after[y].on<ops.size:=by omega
   exact ih _ ops[o.after[y].on] (by omega) (by simp[h5]) (hd _ _ (by simp[h5]) hl) j h2
def bP {l:Array Bool} {i:Nat} (hs:l.size=ops.size) (h:i∈Region.ready .any ops l):∃o,ops[i]? =some o/\fU l i=false/\∀e∈o.after,binds e=true->fU l e.on=true:=by
 unfold Region.ready at h;rw[yDz,yA2]at h;obtain⟨hi,h⟩:=h;have ho:ops[i]? =some ops[i]:=by simp[hi]
 simp only[ho,Option.map_some,yCh,yAs,yCz,yF0,yC1]at h;refine⟨ops[i],ho,?_,λe he hb=>?_⟩
 ·have:=h.1;unfold fU;simp only[yBh]at this⊢;rw[Array.getElem?_eq_getElem (by omega)]at this⊢;simpa using this
 ·obtain⟨x,hx,rfl⟩:=Array.getElem_of_mem he
  rcases h.2 x hx with h2|h2
  ·unfold binds at hb;rw[hb]at h2;cases h2
  ·exact h2
def zFq (hA:zP2 ops=true) {l:Array Bool} (hs:l.size=ops.size) (h:Region.ready .any ops l=[]):∀n i,i<n->i<ops.size->fU l i=true:=by
 intro n
 induction n with
 |zero=>intro i h;omega
 | succ n ih=>
  intro i hin hi
  cases hl:fU l i with
  |true=>rfl
  | false=>
   exfalso
   have hm:i∈Region.ready .any ops l:=by
    unfold Region.ready;rw[yDz,yA2];refine⟨hi,?_⟩;have ho:ops[i]? =some ops[i]:=by simp[hi]
    have h3:=yAu.1 hA i (yA2.2 hi);simp only[ho,Option.map_some,yCh,yAs,yCz,yF0,yC1,yAm]at h3⊢;refine⟨?_,λx hx=>?_⟩
    ·unfold fU at hl;simp only[yBh]at hl⊢;rw[Array.getElem?_eq_getElem (by omega)]at hl⊢;simpa using hl
    ·rcases h3 x hx with h4|h4
     ·exact .inl h4
     ·exact .inr (ih _ (by omega) (by omega))
   rw[h]at hm;cases hm
end
structure NR where
 on:Bool
 v:AV
 d:List (Nat×xO)
 r:List Nat
 nw:List Nat
def St.app (st:St) (dst:Option Nat) (v:AV) (d:List (Nat×xO)):St:=⟨match dst with
 |some t=>(t,v)::st.tm
 |none=>st.tm,d++st.h⟩
def gOf (ops:Array Oper) (o:Oper):List Nat:=match o.guard with
 |some (j,_)=>(UZ ops j).toList
 |none=>[]
def DP (P:Program) (m:Nat) (ops:Array Oper) (o:Oper) (st:St) (e:NR):Prop:=
 vT e.d=true/\(∀t,o.dst=some t->t<m)/\(∀k,k∈e.nw->zD st.h k=none)/\
 (e.on=true->wS P st o.op e.v e.d e.r e.nw)/\(e.on=false->e.v= .s undef/\e.d=[])/\
 match o.guard with
  |none=>e.on=true
  |some (j,b)=>∃t c,UZ ops j=some t/\zG st.tm t= .s c/\e.on=gw c b
def Tr (P:Program) (m:Nat) (ops:Array Oper):List Oper->St->List NR->St->Prop
 | [],st,[],st'=>st=st'
 |o::l,st,e::es,st'=>DP P m ops o st e/\Tr P m ops l (st.app o.dst e.v e.d) es st'
 |_,_,_,_=>False
def kP (L:Nat->Bool):Nat->List (Option Nat×NR)->St->St
 |_,[],st=>st
 |i,(dst,e)::r,st=>kP L (i+1) r (bif L i then st.app dst e.v e.d else st)
def TF (st:St) (dst:Option Nat) (v:AV) (d:List (Nat×xO)) (t:Nat):zG (st.app dst v d).tm t=if dst=some t then v else zG st.tm t:=by
 cases dst with
 |none=>simp[St.app]
 |some j=>simp only[St.app,yT,yBu];by_cases h:t=j<;>simp[h,eq_comm]
def XD (st:St) (dst:Option Nat) (v:AV) (d:List (Nat×xO)) (k:Nat):zD (st.app dst v d).h k=over d (zD st.h) k:=by
 show zD (d++st.h) k=_
 rw[wY]
theorem TG {L L':Nat->Bool} {t:Nat}:∀(r:List (Option Nat×NR)) (i:Nat) (st st':St),zG st.tm t=zG st'.tm t->(∀(j:Nat) p,r[j]? =some p->p.1=some t->L (i+j)=L' (i+j))->
  zG (kP L i r st).tm t=zG (kP L' i r st').tm t
 | [],_,_,_,h,_=>h
 | (dst,e)::r,i,st,st',h,hl=>by
  refine TG r (i+1) _ _ ?_ λj p hp h1=>by have:=hl (j+1) p (by simpa using hp) h1;rwa [show i+1+j=i+(j+1) by omega]
  by_cases hd:dst=some t
  ·have:=hl 0 (dst,e) Z hd;simp only[yDm]at this;rw[this];cases L' i
   ·exact h
   ·simp only[yBx,TF,hd,yF4]
  ·cases L i<;>cases L' i<;>simp only[yBx,yCg,TF,yAc hd,h]
def DQ {d:List (Nat×xO)} {h:yG} {k:Nat} (hk:¬k∈yX d):over d h k=h k:=by
 unfold over
 cases he:zD d k with
 |none=>rfl
 |some e=>exact absurd (uB he) hk
def zDk {d:List (Nat×xO)} {h h':yG} {k:Nat} (hk:k∈yX d):over d h k=over d h' k:=by
 obtain⟨e,he⟩:=bO hk;simp[over,he]
theorem XE {L L':Nat->Bool} {k:Nat}:∀(r:List (Option Nat×NR)) (i:Nat) (st st':St),zD st.h k=zD st'.h k->(∀(j:Nat) p,r[j]? =some p->k∈yX p.2.d->L (i+j)=L' (i+j))->
  zD (kP L i r st).h k=zD (kP L' i r st').h k
 | [],_,_,_,h,_=>h
 | (dst,e)::r,i,st,st',h,hl=>by
  refine XE r (i+1) _ _ ?_ λj p hp h1=>by have:=hl (j+1) p (by simpa using hp) h1;rwa [show i+1+j=i+(j+1) by omega]
  by_cases hd:k∈yX e.d
  ·have:=hl 0 (dst,e) Z hd;simp only[yDm]at this;rw[this];cases L' i
   ·exact h
   ·simp only[yBx,XD];exact zDk hd
  ·cases L i<;>cases L' i<;>simp only[yBx,yCg,XD,DQ hd,h]
theorem zDl {L:Nat->Bool} {P:Program} {m:Nat} {ops:Array Oper}:∀(l:List Oper) (es:List NR) (i:Nat) (st st':St),Tr P m ops l st es st'->(∀j,j<l.length->L (i+j)=true)->kP L i (l.zipWith (λo e=>(o.dst,e)) es) st=st'
 | [],[],_,_,_,h,_=>h
 |o::l,e::es,i,st,st',h,hl=>by
  simp only[yD2,kP];rw[show L i=true from hl 0 zS];exact zDl l es (i+1) _ st' h.2 λj hj=>by have:=hl (j+1) (by simpa using hj);rwa [show i+1+j=i+(j+1) by omega]
 | [],_::_,_,_,_,h,_=>h.elim
 |_::_,[],_,_,_,h,_=>h.elim
theorem TH {L:Nat->Bool}:∀(r:List (Option Nat×NR)) (i:Nat) (st:St),(∀j,j<r.length->L (i+j)=false)->kP L i r st=st
 | [],_,_,_=>rfl
 |(dst,e)::r,i,st,h=>by
  unfold kP;rw[show L i=false from h 0 zS];exact TH r (i+1) st λj hj=>by have:=h (j+1) (by simpa using hj);rwa [show i+1+j=i+(j+1) by omega]
theorem Tr.len {P:Program} {m:Nat} {ops:Array Oper}:∀{l:List Oper} {es:List NR} {st st':St},Tr P m ops l st es st'->es.length=l.length
 | [],[],_,_,_=>rfl
 |o::l,e::es,_,_,h=>by simp[Tr.len h.2]
 | [],_::_,_,_,h=>h.elim
 |_::_,[],_,_,h=>h.elim
theorem Tr.at {P:Program} {m:Nat} {ops:Array Oper}:∀{l:List Oper} {es:List NR} {st st':St} (i k:Nat) (o:Oper) (e:NR),Tr P m ops l st es st'->l[i]? =some o->es[i]? =some e->
  DP P m ops o (kP (λj=>decide (j<k+i)) k (l.zipWith (λo e=>(o.dst,e)) es) st) e/\
   kP (λj=>decide (j<k+i+1)) k (l.zipWith (λo e=>(o.dst,e)) es) st=(kP (λj=>decide (j<k+i)) k (l.zipWith (λo e=>(o.dst,e)) es) st).app o.dst e.v e.d
 | o'::l,e'::es,st,st',0,k,o,e,h,h1,h2=>by
  simp at h1 h2;subst h1 h2;have q1:kP (λj=>decide (j<k+0)) k ((o'::l).zipWith (λo e=>(o.dst,e)) (e'::es)) st=st:=TH _ _ _ λj _=>by simp
  have q2:kP (λj=>decide (j<k+0+1)) k ((o'::l).zipWith (λo e=>(o.dst,e)) (e'::es)) st=st.app o'.dst e'.v e'.d:=by
   simp only[yD2,kP,show decide (k<k+0+1)=true by simp,yBx];exact TH _ _ _ λj _=>by simp
  rw[q1,q2];exact⟨h.1,rfl⟩
 |o'::l,e'::es,st,st',i+1,k,o,e,h,h1,h2=>by
  have ih:=Tr.at i (k+1) o e h.2 DX KT;simp only[yD2,kP,show decide (k<k+(i+1))=true by simp,show decide (k<k+(i+1)+1)=true by simp;omega,yBx];rw[show k+(i+1)=k+1+i by omega];exact ih
 | [],[],_,_,_,_,_,_,_,h1,_=>by simp at h1
 | [],_::_,_,_,_,_,_,_,h,_,_=>h.elim
 |_::_,[],_,_,_,_,_,_,h,_,_=>h.elim
structure FP where
 on:Bool
 w:List Nat
 r:List Nat
def NR.fp (e:NR):FP:=⟨e.on,yX e.d++e.nw,e.r⟩
def zFr (ops:Array Oper) (o:Oper):List Nat:=gOf ops o++fV o.op
def cM (ops:Array Oper) (oi oj:Oper) (fi fj:FP):Bool:=
 (match oi.dst with|some t=>(zFr ops oj).contains t||oj.dst==some t|none=>false)||(match oj.dst with|some t=>(zFr ops oi).contains t|none=>false)||
  fi.w.any (λk=>fj.w.contains k||fj.r.contains k)||fj.w.any (λk=>fi.r.contains k)
def DS (l:List Oper) (T:List Nat) (fs:List FP):Bool:=
 zP2 l.toArray&&okT l.toArray T&&(List.range l.length).all λj=>(List.range j).all λi=>match l[i]?,l[j]?,fs[i]?,fs[j]? with
  |some oi,some oj,some fi,some fj=>bit T j i|| !cM l.toArray oi oj fi fj
  |_,_,_,_=>false
section
variable {P:Program} {K0:List Nat} {F:Fr K0} {m:Nat}
theorem VG.congr {tm tm':Nat->AV} {h h':yG} {a:Act} {w:World} (R:VG F m tm h a w) (e1:∀t,tm' t=tm t) (e2:∀k,h' k=h k):VG F m tm' h' a w:=by
 obtain rfl:tm'=tm:=funext e1;obtain rfl:h'=h:=funext e2;exact R
def VL (l:List Oper) (n:Nat) (T:List Nat) (fs:List FP):Bool:=
 zP2 l.toArray&&okT l.toArray T&&((List.range n).all λj=>(List.range j).all λi=>match l[i]?,l[j]?,fs[i]?,fs[j]? with
  |some oi,some oj,some fi,some fj=>bit T j i|| !cM l.toArray oi oj fi fj
  |_,_,_,_=>false)&&Nat.ble n l.length&&((List.range l.length).all λj=>Nat.blt j n||(List.range j).all λi=>bit T j i)
theorem KS {id:Nat} {l:List Oper} (n:Nat) {st st':St} {es:List NR} {Q:Exit->St->Prop} (hm:P.follows .mixedOrders=true) (hT:Tr P m l.toArray (l.take n) st es st') (hC:VL l n (LS l) (es.map NR.fp)=true) (hB:FJ P F m l.toArray (l.drop n) st' (Q .normal)):
  vZ P F m (.region id l.toArray true) st Q:=by
 refine⟨?_⟩;intro a w H;unfold VL at hC;rw[yAs,yAs,yAs,yAs,yAu,yAu]at hC;obtain⟨⟨⟨⟨hA,hTc⟩,hX⟩,hnl⟩,hY⟩:=hC;have hnl:=yAv hnl;generalize LS l=T at *;have hlen:=hT.len;rw[yAw,yGc hnl]at hlen
 have hAl:∀(i:Nat) o,(l.take n)[i]? =some o->l[i]? =some o/\i<n:=λi o h=>by
  have h1:i<n:=by
   have:=(yA5.1 h).1;rw[yAw]at this;omega
  rw[List.getElem?_take_of_lt h1]at h;exact⟨h,h1⟩
 have hbt:∀i j,n<=j->j<l.length->i<j->bit T j i=true:=λi j h1 h2 h3=>by
  have:=hY j (yA2.2 h2);rw[show Nat.blt j n=false by cases hb:Nat.blt j n with|false=>rfl|true=>exact absurd (yAv hb) (by omega),yC9,yAu]at this;exact this i (yA2.2 h3)
 let R:=(l.take n).zipWith (λo e=>(o.dst,e)) es
 have hR:∀(j:Nat) p,R[j]? =some p->∃o e,(l.take n)[j]? =some o/\es[j]? =some e/\p=(o.dst,e):=λj p hp=>by
  simp only[R,List.getElem?_zipWith]at hp
  cases ho:(l.take n)[j]? with
  |none=>simp[ho]at hp
  |some o=>cases he:es[j]? with
   |none=>simp[ho,he]at hp
   |some e=>simp[ho,he]at hp;exact⟨o,e,rfl,rfl,hp.symm⟩
 have hcl:∀i j oi oj ei ej,i<j->(l.take n)[i]? =some oi->(l.take n)[j]? =some oj->es[i]? =some ei->es[j]? =some ej->cM l.toArray oi oj ei.fp ej.fp=true->bit T j i=true:=λi j oi oj ei ej hij h1 h2 h3 h4 h5=>by
  have:=yAu.1 (hX j (yA2.2 (hAl j oj h2).2)) i (yA2.2 hij);simp only[(hAl i oi h1).1,(hAl j oj h2).1,yAi,h3,h4,Option.map_some,h5,yFz,yGi]at this;simpa using this
 let QQ:Exit->Act->World->Prop:=λe a' w'=>e= .normal/\∃s,Q .normal s/\wN F m s a' w'
 let J0:Array Bool->Prop:=λL=>L.size=l.toArray.size/\(∀i o,l.toArray[i]? =some o->fU L i=true->∀e∈o.after,binds e=true->fU L e.on=true)
 let JA:Array Bool->Act->World->Prop:=λL a w=>J0 L/\(∀i,n<=i->fU L i=false)/\VG F m (zG (kP (fU L) 0 R st).tm) (zD (kP (fU L) 0 R st).h) a w
 let JB:Array Bool->Act->World->Prop:=λL a w=>J0 L/\∃k,(∀i,fU L i=decide (i<n+k))/\n+k<=l.length/\wpListIn (DJ F.ro) 0 P l.toArray QQ (l.drop (n+k)) a w
 let J:Array Bool->Act->World->Prop:=λL a w=>JA L a w∨JB L a w
 have hJ0:∀L a w,J L a w->J0 L:=λL a w h=>h.elim (λh=>h.1) (λh=>h.1)
 have hAB:∀L a w,JA L a w->(∀i,i<n->fU L i=true)->JB L a w:=λL a w hJ hall=>by
  refine⟨hJ.1,0,λi=>?_,hnl,?_⟩
  ·by_cases h:i<n
   ·rw[hall i h];simp[h]
   ·rw[hJ.2.1 i (by omega)];simp[h]
  ·have:kP (fU L) 0 R st=st':=zDl (l.take n) es 0 st st' hT λj hj=>by rw[yBv];exact hall j (by rw[yAw]at hj;omega)
   have h2:=hJ.2.2;rw[this]at h2;exact hB a w h2
 have hend:∀L a w,(∀i,i<l.toArray.size->fU L i=true)->J L a w->QQ .normal a w:=λL a w hall hJ=>by
  have hJB:JB L a w:=hJ.elim (λh=>hAB L a w h λi hi=>hall i wF) (λh=>h);obtain⟨_,k,h1,h2,h3⟩:=hJB
  have hk:n+k=l.length:=by
   by_cases h:n+k<l.length
   ·have h4:=hall (n+k) TJ;rw[h1]at h4;simp at h4
   ·omega
  rw[hk,yDp]at h3;exact h3
 have hcls:∀(L:Array Bool) i o,J0 L->l.toArray[i]? =some o->(∀e∈o.after,binds e=true->fU L e.on=true)->J0 (L.setIfInBounds i true):=λL i o h0 ho hpre=>by
  obtain⟨hs,hdn⟩:=h0;have hin:i<l.toArray.size:=(yC4.1 ho).1
  have hL':∀j,fU (L.setIfInBounds i true) j=if j=i then true else fU L j:=λj=>TE L i j (by rw[hs];exact hin)
  refine⟨by simpa using hs,λj oj hoj hlj ed hed hb=>?_⟩;rw[hL']at hlj⊢;by_cases hji:j=i
  ·subst hji;rw[ho]at hoj;cases hoj;split
   ·rfl
   ·exact hpre ed hed hb
  ·rw[yAc hji]at hlj;split
   ·rfl
   ·exact hdn j oj hoj hlj ed hed hb
 have hstepB:∀L a w i,JB L a w->i∈Region.ready .any l.toArray L->∀K:Act->World->Prop,(∀a' w',J (L.setIfInBounds i true) a' w'->K a' w')->wpOpIn (DJ F.ro) 0 P l.toArray QQ i K a w:=by
  intro L a w i hJ hi K hK;obtain⟨h0,k,h1,h2,h3⟩:=hJ;obtain⟨o,ho,hl,hpre⟩:=bP h0.1 hi;have hin:i<l.toArray.size:=(yC4.1 ho).1;have hin':i<l.length:=by simpa using hin
  have hge:n+k<=i:=by
   rw[h1]at hl;simpa using hl
  have hie:i=n+k:=by
   by_cases h:n+k<i
   ·have h5:=HG hA hTc h0.2 (i+1) i o (by omega) ho hpre (n+k) (hbt _ _ (by omega) hin' h);rw[h1]at h5;simp at h5
   ·omega
  subst hie;rw[yCw hin']at h3
  have ho':l[n+k]'hin'=o:=by
   have:=(yC4.1 ho).2;simpa using this
  rw[ho']at h3
  have hL':∀j,fU (L.setIfInBounds (n+k) true) j=if j=n+k then true else fU L j:=λj=>TE L _ j (by rw[h0.1];exact hin)
  have hnx:∀a' w',wpListIn (DJ F.ro) 0 P l.toArray QQ (l.drop (n+k+1)) a' w'->K a' w':=λa' w' h=>by
   refine hK a' w' (.inr ⟨hcls L _ o h0 ho hpre,k+1,λj=>?_,by omega,h⟩);rw[hL',h1];by_cases hj:j=n+k
   ·rw[yAd hj];simp;omega
   ·rw[yAc hj];by_cases hj2:j<n+k
    ·simp[hj2];omega
    ·simp[hj2];omega
  unfold wpOpIn;rw[ho];dsimp only;unfold wpListIn at h3;split
  ·rename_i hw;rw[yAd hw]at h3;exact Oper.wpIn_mono hnx h3
  ·rename_i hw;rw[yAc hw]at h3;exact⟨h3.1,hnx _ _ h3.2⟩
 have hstep:∀L a w i,J L a w->i∈Region.ready .any l.toArray L->∀K:Act->World->Prop,(∀a' w',J (L.setIfInBounds i true) a' w'->K a' w')->wpOpIn (DJ F.ro) 0 P l.toArray QQ i K a w:=by
  intro L a w i hJ hi K hK
  rcases hJ with hJ|hJ
  case inr=>exact hstepB L a w i hJ hi K hK
  by_cases hin0:i<n
  case neg=>
   refine hstepB L a w i (hAB L a w hJ λj hj=>?_) hi K hK;obtain⟨o,ho,hl,hpre⟩:=bP hJ.1.1 hi;have hin:i<l.toArray.size:=(yC4.1 ho).1;exact HG hA hTc hJ.1.2 (i+1) i o (by omega) ho hpre j (hbt _ _ (by omega) (by simpa using hin) (by omega))
  obtain⟨h00,hge0,hRel⟩:=hJ;obtain⟨hs,hdn⟩:=h00;obtain⟨o,ho,hl,hpre⟩:=bP hs hi;have hin:i<l.toArray.size:=(yC4.1 ho).1;have ho':(l.take n)[i]? =some o:=by rw[List.getElem?_take_of_lt hin0];simpa using ho
  obtain⟨e,he⟩:∃e,es[i]? =some e:=⟨es[i]'(by rw[hlen];exact hin0),by simp⟩;have hahead:=HG hA hTc hdn (i+1) i o (by omega) ho hpre
  have hlate:∀j,j<l.toArray.size->bit T j i=true->fU L j=false:=λj hj hij=>by
   cases hlj:fU L j with
   |false=>rfl
   |true=>
    have hoj:l.toArray[j]? =some l.toArray[j]:=by simp[hj]
    have:=HG hA hTc hdn (j+1) j _ (by omega) hoj (hdn j _ hoj hlj) i hij;rw[hl]at this;cases this
  have hord:∀j oj ej,(l.take n)[j]? =some oj->es[j]? =some ej->j≠i->(j<i->cM l.toArray oj o ej.fp e.fp=true)->(i<j->cM l.toArray o oj e.fp ej.fp=true)->fU L j=decide (j<i):=λj oj ej h1 h2 hne h3 h4=>by
   rcases Nat.lt_or_gt_of_ne hne with h|h
   ·rw[hahead j (hcl j i oj o ej e h h1 ho' h2 he (h3 h))];simp[h]
   ·rw[hlate j (by have:=hAl j oj h1;simp;omega) (hcl i j o oj e ej h ho' h1 he h2 (h4 h))];simp;omega
  obtain⟨⟨s1,s2,s3,s4,s5,s6⟩,hnext⟩:=hT.at i 0 o e ho' he;simp only[yBv]at s3 s4 s6 hnext
  let Li:Nat->Bool:=λj=>decide (j<i)
  have rdS:∀t,t∈zFr l.toArray o->zG (kP (fU L) 0 R st).tm t=zG (kP Li 0 R st).tm t:=λt ht=>TG R 0 st st Z λj p hp hd=>by
   obtain⟨oj,ej,h1,h2,rfl⟩:=hR j p hp;rw[yBv];by_cases hji:j=i
   ·subst hji;simp only[Li];rw[hl];simp
   ·refine hord j oj ej h1 h2 hji (λ_=>?_) λ_=>?_
    ·unfold cM;simp only[show oj.dst=some t from hd,yDj.2 ht,yDi]
    ·unfold cM;simp only[show oj.dst=some t from hd,yDj.2 ht,yDi,yD1]
  have rdK:∀k,k∈e.r∨k∈e.nw∨k∈yX e.d->zD (kP (fU L) 0 R st).h k=zD (kP Li 0 R st).h k:=λk hk=>XE R 0 st st Z λj p hp hd=>by
   obtain⟨oj,ej,h1,h2,rfl⟩:=hR j p hp;rw[yBv];by_cases hji:j=i
   ·subst hji;simp only[Li];rw[hl];simp
   ·have hwj:k∈ej.fp.w:=by simp only[NR.fp,yAz];exact .inl hd
    have hki:k∈e.fp.w∨k∈e.fp.r:=by
     simp only[NR.fp,yAz]
     rcases hk with h|h|h
     ·exact .inr h
     ·exact .inl (.inr h)
     ·exact .inl (.inl h)
    refine hord j oj ej h1 h2 hji (λ_=>?_) λ_=>?_
    ·have:ej.fp.w.any (λk=>e.fp.w.contains k||e.fp.r.contains k)=true:=yB8.2 ⟨k,hwj,by simp only[yC1,yDj];exact hki⟩;unfold cM;simp only[this,yD1,yDi]
    ·rcases hki with h|h
     ·have:e.fp.w.any (λk=>ej.fp.w.contains k||ej.fp.r.contains k)=true:=yB8.2 ⟨k,h,by simp only[yC1,yDj];exact .inl hwj⟩;unfold cM;simp only[this,yD1,yDi]
     ·have:ej.fp.w.any (λk=>e.fp.r.contains k)=true:=yB8.2 ⟨k,hwj,yDj.2 h⟩;unfold cM;simp only[this,yD1]
  have hL':∀j,fU (L.setIfInBounds i true) j=if j=i then true else fU L j:=λj=>TE L i j (by rw[hs];exact hin)
  have lookN:∀t,zG (kP (fU (L.setIfInBounds i true)) 0 R st).tm t=if o.dst=some t then e.v else zG (kP (fU L) 0 R st).tm t:=λt=>by
   by_cases hd:o.dst=some t
   ·rw[yAd hd]
    have h1:zG (kP (fU (L.setIfInBounds i true)) 0 R st).tm t=zG (kP (λj=>decide (j<i+1)) 0 R st).tm t:=TG R 0 st st Z λj p hp hdj=>by
     obtain⟨oj,ej,h1,h2,rfl⟩:=hR j p hp;rw[yBv,hL'];by_cases hji:j=i
     ·subst hji;simp
     ·have hdj':oj.dst=some t:=hdj;rw[yAc hji,hord j oj ej h1 h2 hji (λ_=>by unfold cM;simp[hdj',hd]) (λ_=>by unfold cM;simp[hdj',hd])];by_cases h:j<i
      ·simp[h];omega
      ·simp[h];omega
    rw[h1,show(kP (λj=>decide (j<i+1)) 0 R st)=_ from hnext,TF,yAd hd]
   ·rw[yAc hd]
    exact TG R 0 st st Z λj p hp hdj=>by
     obtain⟨oj,ej,h1,h2,rfl⟩:=hR j p hp;rw[yBv,hL'];by_cases hji:j=i
     ·subst hji;rw[ho']at h1;cases h1;exact absurd hdj hd
     ·rw[yAc hji]
  have lookEN:∀k,zD (kP (fU (L.setIfInBounds i true)) 0 R st).h k=over e.d (zD (kP (fU L) 0 R st).h) k:=λk=>by
   by_cases hd:k∈yX e.d
   ·have h1:zD (kP (fU (L.setIfInBounds i true)) 0 R st).h k=zD (kP (λj=>decide (j<i+1)) 0 R st).h k:=XE R 0 st st Z λj p hp hdj=>by
     obtain⟨oj,ej,h1,h2,rfl⟩:=hR j p hp;rw[yBv,hL'];by_cases hji:j=i
     ·subst hji;simp
     ·have hwj:k∈ej.fp.w:=by simp only[NR.fp,yAz];exact .inl hdj
      have hwi:k∈e.fp.w:=by simp only[NR.fp,yAz];exact .inl hd
      have q1:ej.fp.w.any (λk=>e.fp.w.contains k||e.fp.r.contains k)=true:=yB8.2 ⟨k,hwj,by simp only[yC1,yDj];exact .inl hwi⟩;have q2:e.fp.w.any (λk=>ej.fp.w.contains k||ej.fp.r.contains k)=true:=yB8.2 ⟨k,hwi,by simp only[yC1,yDj];exact .inl hwj⟩;rw[yAc hji,hord j oj ej h1 h2 hji (λ_=>by unfold cM;simp only[q1,yD1,yDi]) (λ_=>by unfold cM;simp only[q2,yD1,yDi])];by_cases h:j<i
      ·simp[h];omega
      ·simp[h];omega
    rw[h1,show(kP (λj=>decide (j<i+1)) 0 R st)=_ from hnext,XD];exact zDk hd
   ·rw[DQ hd]
    exact XE R 0 st st Z λj p hp hdj=>by
     obtain⟨oj,ej,h1,h2,rfl⟩:=hR j p hp;rw[yBv,hL'];by_cases hji:j=i
     ·subst hji;rw[he]at h2;cases h2;exact absurd hdj hd
     ·rw[yAc hji]
  have hfin:∀a' w',VG F m (λt=>if o.dst=some t then e.v else zG (kP (fU L) 0 R st).tm t) (over e.d (zD (kP (fU L) 0 R st).h)) a' w'->K a' w':=λa' w' h=>by
   refine hK a' w' (.inl ⟨hcls L i o ⟨hs,hdn⟩ ho hpre,λj hj=>?_,h.congr lookN lookEN⟩);rw[hL',yAc (by omega)];exact hge0 j hj
  have hexec:e.on=true->o.wpIn (DJ F.ro) 0 P a w K QQ:=λhon=>
   (s4 hon).rel hRel (λt ht=>rdS t (by unfold zFr;simp[ht])) (λk hk=>rdK k (.inl hk)) (λk hk=>by rw[rdK k (.inr (.inl hk))];exact s3 k hk) s1 s2 hfin
  unfold wpOpIn;rw[ho];dsimp only
  cases hg:o.guard with
  |none=>
   rw[hg]at s6;rw[yAd (by simp[Region.wanted,hg])];exact hexec s6
  | some jb=>
   obtain⟨j,b⟩:=jb;rw[hg]at s6;obtain⟨t,c,g1,g2,g3⟩:=s6;have htr:t∈zFr l.toArray o:=by unfold zFr gOf;simp[hg,g1]
   have hv:a.eval (.tmp t)=c:=by
    obtain⟨⟨_,β,_,_,Ht,_⟩,_⟩:=hRel;have:=Ht t;rw[rdS t htr,g2]at this;exact this.s_inv
   have hw:=aM hg g1 hv
   cases hon:e.on with
   |true=>
    rw[yAd (by rw[hw,<-g3,hon])];exact hexec hon
   |false=>
    rw[yAc (by rw[hw,<-g3,hon];simp)];obtain⟨v1,v2⟩:=s5 hon;refine⟨λ_ _=>trivial,hfin _ _ ?_⟩;rw[v1,v2];exact VG.bot hRel o.dst s2
 have main:∀(fuel:Nat) (L:Array Bool) (a:Act) (w:World),cnt (λi=>!fU L i) l.toArray.size<=fuel->J L a w->wpAnyIn (DJ F.ro) 0 P .any l.toArray QQ fuel L a w:=by
  intro fuel
  induction fuel with
  | zero=>
   intro L a w hf hJ
   have all:∀i,i<l.toArray.size->fU L i=true:=by
    intro i hi
    cases hl:fU L i with
    |true=>rfl
    |false=>
     exfalso;have h:=zDj (p:=λj=>!fU L j&&j != i) (q:=λj=>!fU L j) l.toArray.size i hi zS (λj hj=>by simp[hj]);simp[hl]at h;simp at hf;omega
   refine⟨?_,hend L a w all hJ⟩
   cases hr:Region.ready .any l.toArray L with
   |nil=>rfl
   |cons i rest=>
    obtain⟨o,ho,hl,_⟩:=bP (hJ0 _ _ _ hJ).1 (i:=i) (by rw[hr];simp);rw[all i (yC4.1 ho).1]at hl;cases hl
  |succ fuel ih=>
   intro L a w hf hJ;refine⟨λhr=>hend L a w (λi hi=>zFq hA (hJ0 _ _ _ hJ).1 hr (i+1) i (by omega) hi) hJ,λi hi=>?_⟩;refine hstep L a w i hJ hi _ (λa' w' hJ'=>ih _ _ _ ?_ hJ');obtain⟨o,ho,hl,_⟩:=bP (hJ0 _ _ _ hJ).1 hi;have hin:i<l.toArray.size:=(yC4.1 ho).1;have h:=zDj (p:=λj=>!fU (L.setIfInBounds i true) j) (q:=λj=>!fU L j) l.toArray.size i hin (by simp[TE L i i (by rw[(hJ0 _ _ _ hJ).1];exact hin)]) (λj hj=>by simp[TE L i j (by rw[(hJ0 _ _ _ hJ).1];exact hin),hj]);simp[hl]at h;simp at hf⊢;omega
 refine Code.wpIn_mono (λe a' w' ⟨he,s,h1,h2⟩=>⟨s,by rw[he];exact h1,h2⟩) (wpIn_region_any hm (main _ _ _ _ (zU7 _ _) ?_))
 have hf:∀i,fU (Array.replicate l.toArray.size false) i=false:=by
  intro i;unfold fU;simp only[yBh,Array.getElem?_replicate]
  split<;>rfl
 refine .inl ⟨⟨by simp,λi o _ hl=>?_⟩,λi _=>hf i,?_⟩
 ·rw[hf]at hl;cases hl
 ·rw[TH R 0 st λj _=>hf _];obtain⟨⟨X,β,hX,HH,Ht,KK,hJ,hD⟩,nd,gs,hl⟩:=H;have G:=xN.drew HH (w.drawn+1);exact⟨⟨X,β,hX,G.hok,λt=>(Ht t).evo G.evo,KK.goes G nd (G.lives HH nd),λi hi=>F.go G (hJ i hi),hD.goes HH G⟩,nd,gs,hl⟩
def zJw {id:Nat} {l:List Oper} {st st':St} {es:List NR} {Q:Exit->St->Prop} (hm:P.follows .mixedOrders=true) (hT:Tr P m l.toArray l st es st') (hC:DS l (LS l) (es.map NR.fp)=true) (hq:Q .normal st'):
  vZ P F m (.region id l.toArray true) st Q:=by
 refine KS l.length hm (by rw[yAh];exact hT) ?_ (by rw[yDp];exact λa w H=>⟨rfl,_,hq,H⟩);unfold VL;unfold DS at hC;rw[hC,yA3,yAs,yAu];refine⟨yD7 (yAg _),λj hj=>?_⟩;rw[show Nat.blt j l.length=true from yD7 (yA2.1 hj),yDi]
end
def zBb {P:Program} {TT:List TI} (h:(List.range TT.length).map (λt=>zJ2 P t)=TT.map some):uJ P TT:=λt ti ht=>by
 have hl:=(yA5.1 ht).1;have:=yBa (·[t]?) h;simp only[yAi,ht,Option.map_some,yBg hl]at this;simpa using this
def zXm (P:Program) {K0:List Nat} (F:Fr K0) (m:Nat) (ops:Array Oper):Bool->List Oper->St->List FP->(List FP->St->Prop)->Prop
 |false,l,st,_,Q=>FJ P F m ops l st (Q [])
 |true,l,st,fs,Q=>∃es st',Tr P m ops l st es st'/\Q ((es.map NR.fp).reverse++fs) st'
structure zZ (P:Program) {K0:List Nat} (F:Fr K0) (m:Nat) (ops:Array Oper) (dr:Bool) (l:List Oper) (st:St) (fs:List FP) (Q:List FP->St->Prop):Prop where
 run:zXm P F m ops dr l st fs Q
section
variable {P:Program} {K0:List Nat} {F:Fr K0} {m:Nat} {ops:Array Oper} {rest:List Oper} {Q:List FP->St->Prop} {tm:List (Nat×AV)} {h:List (Nat×xO)} {dr:Bool} {fs:List FP}
def uQ {st:St} {Q':St->Prop} (hq:Q' st):zZ P F m ops false [] st fs (λ_ s=>Q' s):=⟨zP0 hq⟩
def VM {l:List Oper} {st:St} {Q':St->Prop} (hc:DS l (LS l) fs.reverse=true) (hq:Q' st):zZ P F m ops true [] st fs (λfs s=>DS l (LS l) fs.reverse=true/\Q' s):=⟨⟨[],st,rfl,hc,hq⟩⟩
def HI {o:Oper} {st st':St} {e:NR} (hon:e.on=true) (hg:o.guard=none) (hs:wS P st o.op e.v e.d e.r e.nw) (hn:∀k,k∈e.nw->zD st.h k=none) (hd:vT e.d=true) (hm:∀t,o.dst=some t->t<m)
  (he:st'=st.app o.dst e.v e.d) (hk:zZ P F m ops dr rest st' (e.fp::fs) Q):zZ P F m ops dr (o::rest) st fs Q:=by
 subst he
 cases dr with
 |false=>exact⟨zJu hg hs hn hd hm (λt=>TF _ _ _ _ _) (funext λk=>XD _ _ _ _ _) hk.run⟩
 |true=>
  obtain⟨es,st2,h1,h2⟩:=hk.run;refine⟨⟨e::es,st2,⟨⟨hd,hm,hn,(λ_=>hs),(λh=>by rw[hon]at h;cases h),by rw[hg];exact hon⟩,h1⟩,?_⟩⟩;simpa using h2
section
variable {op:Op} {ty:Nat} {pos:String} {after:Array Edge} {t:Nat} {v:AV} {r nw:List Nat}
def yJ (hs:wS P ⟨tm,h⟩ op v [] r []) (hm:Nat.blt t m=true) (hk:zZ P F m ops dr rest ⟨(t,v)::tm,h⟩ (⟨true,[],r⟩::fs) Q):zZ P F m ops dr (⟨some t,op,ty,pos,after,none⟩::rest) ⟨tm,h⟩ fs Q:=
 HI (e:=⟨true,v,[],r,[]⟩) Z Z hs zS Z (λj hj=>by cases hj;exact yAv hm) Z hk
def uT {k:Nat} {e:xO} (hs:wS P ⟨tm,h⟩ op v [(k,e)] r nw) (hm:Nat.blt t m=true) (hn:nw.all (λj=>(zD h j).isNone)=true) (hd:vT [(k,e)]=true) (hk:zZ P F m ops dr rest ⟨(t,v)::tm,(k,e)::h⟩ (⟨true,k::nw,r⟩::fs) Q):
  zZ P F m ops dr (⟨some t,op,ty,pos,after,none⟩::rest) ⟨tm,h⟩ fs Q:=
 HI (e:=⟨true,v,[(k,e)],r,nw⟩) Z Z hs (λj hj=>by have:=yAu.1 hn j hj;simpa using this) hd (λj hj=>by cases hj;exact yAv hm) Z hk
def x_s {k:Nat} {e:xO} (hs:wS P ⟨tm,h⟩ op v [(k,e)] r nw) (hn:nw.all (λj=>(zD h j).isNone)=true) (hd:vT [(k,e)]=true) (hk:zZ P F m ops dr rest ⟨tm,(k,e)::h⟩ (⟨true,k::nw,r⟩::fs) Q):zZ P F m ops dr (⟨none,op,ty,pos,after,none⟩::rest) ⟨tm,h⟩ fs Q:=
 HI (e:=⟨true,v,[(k,e)],r,nw⟩) Z Z hs (λj hj=>by have:=yAu.1 hn j hj;simpa using this) hd (λj hj=>by cases hj) Z hk
def XF {d:List (Nat×xO)} (hs:wS P ⟨tm,h⟩ op v d r nw) (hm:Nat.blt t m=true) (hn:nw.all (λj=>(zD h j).isNone)=true) (hd:vT d=true) (hk:zZ P F m ops dr rest ⟨(t,v)::tm,d++h⟩ (⟨true,yX d++nw,r⟩::fs) Q):
  zZ P F m ops dr (⟨some t,op,ty,pos,after,none⟩::rest) ⟨tm,h⟩ fs Q:=
 HI (e:=⟨true,v,d,r,nw⟩) Z Z hs (λj hj=>by have:=yAu.1 hn j hj;simpa using this) hd (λj hj=>by cases hj;exact yAv hm) Z hk
end
theorem DP.on {P:Program} {m:Nat} {ops:Array Oper} {d:Option Nat} {op:Op} {ty:Nat} {pos:String} {after:Array Edge} {j t:Nat} {b:Bool} {st:St} {e:NR} (ht:UZ ops j=some t) (hv:zG st.tm t= .s (.bool b)) (hs:DP P m ops ⟨d,op,ty,pos,after,none⟩ st e):
  DP P m ops ⟨d,op,ty,pos,after,some (j,b)⟩ st e:=by
 obtain⟨h1,h2,h3,h4,h5,h6⟩:=hs;exact⟨h1,h2,h3,h4,h5,t,.bool b,ht,hv,by rw[show e.on=true from h6];simp[gw]⟩
def zP4 {d:Option Nat} {op:Op} {ty:Nat} {pos:String} {after:Array Edge} {j t:Nat} {b:Bool} {st:St} (ht:UZ ops j=some t) (hv:zG st.tm t= .s (.bool b)) (hk:zZ P F m ops dr (⟨d,op,ty,pos,after,none⟩::rest) st fs Q):
  zZ P F m ops dr (⟨d,op,ty,pos,after,some (j,b)⟩::rest) st fs Q:=by
 cases dr with
 |false=>exact⟨zU6 ht hv hk.run⟩
 |true=>
  obtain⟨es,st2,h1,h2⟩:=hk.run
  cases es with
  |nil=>exact h1.elim
  |cons e es=>exact⟨⟨e::es,st2,⟨h1.1.on ht hv,h1.2⟩,h2⟩⟩
def zDm {d:Nat} {op:Op} {ty:Nat} {pos:String} {after:Array Edge} {j t:Nat} {b:Bool} {c:Value} (ht:UZ ops j=some t) (hv:zG tm t= .s c) (hc:gw c b=false) (hm:Nat.blt d m=true) (hk:zZ P F m ops dr rest ⟨(d,.s undef)::tm,h⟩ (⟨false,[],[]⟩::fs) Q):
  zZ P F m ops dr (⟨some d,op,ty,pos,after,some (j,b)⟩::rest) ⟨tm,h⟩ fs Q:=by
 cases dr with
 |false=>exact⟨zP1 ht hv hc hm hk.run⟩
 |true=>
  obtain⟨es,st2,h1,h2⟩:=hk.run;refine⟨⟨⟨false,.s undef,[],[],[]⟩::es,st2,⟨⟨rfl,(λj hj=>by cases hj;exact yAv hm),by simp,(λh=>by cases h),(λ_=>⟨rfl,rfl⟩),t,c,ht,hv,hc.symm⟩,h1⟩,?_⟩⟩;rw[yBs,List.reverse_cons,yA6];exact h2
def zP5 {st:St} {l:List Oper} {t:Nat} {c:Bool} (hv:zG st.tm t= .s (.bool c)) (h1:c=true->zZ P F m ops false l ⟨(t,.s (.bool true))::st.tm,st.h⟩ fs Q) (h2:c=false->zZ P F m ops false l ⟨(t,.s (.bool false))::st.tm,st.h⟩ fs Q):zZ P F m ops false l st fs Q:=⟨zFo hv (λh=>(h1 h).run) (λh=>(h2 h).run)⟩
def dO {d:Option Nat} {op:Op} {ty:Nat} {pos:String} {after:Array Edge} {j t:Nat} {b c:Bool} (ht:UZ ops j=some t) (hv:zG tm t= .s (.bool c)) (h1:c=true->zZ P F m ops false (⟨d,op,ty,pos,after,some (j,b)⟩::rest) ⟨(t,.s (.bool true))::tm,h⟩ fs Q) (h2:c=false->zZ P F m ops false (⟨d,op,ty,pos,after,some (j,b)⟩::rest) ⟨(t,.s (.bool false))::tm,h⟩ fs Q):
  zZ P F m ops false (⟨d,op,ty,pos,after,some (j,b)⟩::rest) ⟨tm,h⟩ fs Q:=by
 have:=ht;exact zP5 (st:=⟨tm,h⟩) hv h1 h2
section
variable {ty t:Nat} {pos:String} {after:Array Edge} {st:St} {g:Option (Nat×Bool)} {d:Option Nat}
def xT {c:Operand} {asq:Array Operand} {ts:Array Nat} (hk:zZ P F m ops dr (⟨some t,(.call ⟨.value c,asq,ts⟩),ty,pos,after,none⟩::rest) st fs Q):zZ P F m ops dr (⟨some t,(.call ⟨.value c,asq,ts⟩),ty,pos,after,none⟩::rest) st fs Q:=hk
def wE {op:BinOp} {tx t2:Nat} {x y:Operand} (hk:zZ P F m ops dr (⟨some t,(.binOp op tx x y t2),ty,pos,after,none⟩::rest) st fs Q):zZ P F m ops dr (⟨some t,(.binOp op tx x y t2),ty,pos,after,none⟩::rest) st fs Q:=hk
def HJ {tx:Nat} {x y:Operand} (hk:zZ P F m ops dr (⟨some t,(.indexAddr tx x y),ty,pos,after,none⟩::rest) st fs Q):zZ P F m ops dr (⟨some t,(.indexAddr tx x y),ty,pos,after,none⟩::rest) st fs Q:=hk
def PU {tx:Nat} {x:Operand} (hk:zZ P F m ops dr (⟨some t,(.load tx x),ty,pos,after,none⟩::rest) st fs Q):zZ P F m ops dr (⟨some t,(.load tx x),ty,pos,after,none⟩::rest) st fs Q:=hk
def HL {tx n:Nat} {x:Operand} (hk:zZ P F m ops dr (⟨some t,(.fieldAddr tx x n),ty,pos,after,none⟩::rest) st fs Q):zZ P F m ops dr (⟨some t,(.fieldAddr tx x n),ty,pos,after,none⟩::rest) st fs Q:=hk
def cU {tx:Nat} {x y:Operand} (hk:zZ P F m ops dr (⟨none,(.store tx x y),ty,pos,after,none⟩::rest) st fs Q):zZ P F m ops dr (⟨none,(.store tx x y),ty,pos,after,none⟩::rest) st fs Q:=hk
def ZW {op:Op} {j:Nat} {b:Bool} (hk:zZ P F m ops dr (⟨d,op,ty,pos,after,some (j,b)⟩::rest) st fs Q):zZ P F m ops dr (⟨d,op,ty,pos,after,some (j,b)⟩::rest) st fs Q:=hk
def zE {l:List Oper} (hk:zZ P F m ops dr l st fs Q):zZ P F m ops dr l st fs Q:=hk
end
def xE {Q:Exit->St->Prop} {id:Nat} {l:List Oper} {st:St} (hk:zZ P F m l.toArray false l st [] (λ_ s=>Q .normal s)):vZ P F m (.region id l.toArray false) st Q:=zA9 hk.run
def vG {Q:Exit->St->Prop} {id:Nat} {l:List Oper} {st:St} (hm:P.follows .mixedOrders=true) (hk:zZ P F m l.toArray true l st [] (λfs s=>DS l (LS l) fs.reverse=true/\Q .normal s)):vZ P F m (.region id l.toArray true) st Q:=by
 obtain⟨es,st2,h1,h2,h3⟩:=hk.run;exact zJw hm h1 KT h3
end
end Av
end Go.Proofs.YteajjdidebfcjaaGreat
