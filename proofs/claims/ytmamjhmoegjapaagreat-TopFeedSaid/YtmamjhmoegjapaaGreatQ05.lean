/- Part 5. -/
import Derived.Test.YtmamjhmoegjapaaGreatQ04
namespace Go.Proofs.YtmamjhmoegjapaaGreat
namespace Av
set_option linter.all false
mutual
def AV.refs:AV->List Nat
 | .ref k _ _| .ptr k _ _=>[k]
 | .agg cs| .fn _ cs| .tup cs=>qN cs
 |_=>[]
def qN:List AV->List Nat
 | []=>[]
 |v::r=>v.refs++qN r
end
mutual
def AV.nosl:AV->Bool
 | .sl _ _| .slc _ _| .fp _ _ _=>false
 | .agg cs| .fn _ cs| .tup cs=>PE cs
 |_=>true
def PE:List AV->Bool
 | []=>true
 |v::r=>v.nosl&&PE r
end
mutual
def vN (K:List Nat) (h:yH):AV->AV
 | .ref k off len=>bif K.contains k then .ref k off len else match h k with
  |some (.arr _ xs fl)=>bif fl.nest then .bot else .sl false ((xs.drop off).take len)
  |_=> .bot
 | .ptr k i off=>bif K.contains k then .ptr k i off else .bot
 | .agg cs=> .agg (wE K h cs)
 | .fn f cs=> .fn f (wE K h cs)
 | .tup cs=> .tup (wE K h cs)
 |v=>v
def wE (K:List Nat) (h:yH):List AV->List AV
 | []=>[]
 |v::r=>vN K h v::wE K h r
end
mutual
def wN (K:List Nat) (h:yH):AV->AV
 | .ref k off len=>bif K.contains k then .ref k off len else match h k with
  |some (.arr _ xs fl)=>bif fl.nest then(bif wC (wE K h xs)then .sl false (((wE K h xs).drop off).take len)else .bot)else .sl false ((xs.drop off).take len)
  |_=> .bot
 | .ptr k i off=>bif K.contains k then .ptr k i off else .bot
 | .agg cs=> .agg (uO K h cs)
 | .fn f cs=> .fn f (uO K h cs)
 | .tup cs=> .tup (uO K h cs)
 |v=>v
def uO (K:List Nat) (h:yH):List AV->List AV
 | []=>[]
 |v::r=>wN K h v::uO K h r
end
mutual
def XO:AV->AV
 | .s v=>match v with
  | .slice none 0 0=> .sl false []
  |v=> .s v
 | .sl _ xs=> .sl false xs
 | .agg cs=> .agg (wkL cs)
 | .fn f cs=> .fn f (wkL cs)
 | .tup cs=> .tup (wkL cs)
 |v=>v
def wkL:List AV->List AV
 | []=>[]
 |v::r=>XO v::wkL r
end
theorem xR:∀{cs:List AV} {i:Nat} {v:AV} {k:Nat},cs[i]? =some v->k∈v.refs->k∈qN cs
 | [],_,_,_,h,_=>by simp at h
 |x::r,0,v,k,h,hk=>by simp at h;subst h;simp[qN,hk]
 |x::r,i+1,v,k,h,hk=>by simp[qN,xR (show r[i]? =some v by simpa using h) hk]
theorem kH:∀{cs:List AV} {i:Nat} {v:AV},PE cs=true->cs[i]? =some v->v.nosl=true
 | [],_,_,_,h=>by simp at h
 |x::r,0,v,hk,h=>by simp at h;subst h;simp[PE]at hk;exact hk.1
 |x::r,i+1,v,hk,h=>by simp[PE]at hk;exact kH hk.2 NS
theorem bJ (K:List Nat) (h:yH):∀(cs:List AV) (i:Nat),(uO K h cs)[i]? =(cs[i]?).map (wN K h)
 | [],i=>by simp[uO]
 |x::r,0=>by simp[uO]
 |x::r,i+1=>by simp[uO,bJ K h r i]
theorem cQ (K:List Nat) (h:yH):∀(cs:List AV) (i:Nat),(wE K h cs)[i]? =(cs[i]?).map (vN K h)
 | [],i=>by simp[wE]
 |x::r,0=>by simp[wE]
 |x::r,i+1=>by simp[wE,cQ K h r i]
theorem qQ (K:List Nat) (h:yH):∀(cs:List AV),(wE K h cs).length=cs.length
 | []=>rfl
 |x::r=>by simp[wE,qQ K h r]
theorem ZA {v:AV} (h:v.isAgg=false):v.cells=[v]:=by cases v<;>first|rfl|(simp[AV.isAgg]at h)
theorem PF (K:List Nat) (h:yH) (x:AV):(vN K h x).cells=wE K h x.cells:=by
 cases x with
 |agg cs=>rfl
 | ref k off len=>
  refine ZA ?_;unfold vN
  cases K.contains k with
  |true=>rfl
  | false=>
   simp only[zY8]
   rcases h k with _|(_|⟨_,_,fl⟩|_)
   ·rfl
   ·rfl
   ·dsimp only
    cases fl.nest<;>rfl
   ·rfl
 |ptr k i off=>refine ZA ?_;unfold vN;cases K.contains k<;>rfl
 |_=>rfl
theorem PG (K:List Nat) (h:yH) (x:AV):(wN K h x).cells=uO K h x.cells:=by
 cases x with
 |agg cs=>rfl
 | ref k off len=>
  refine ZA ?_;unfold wN
  cases K.contains k with
  |true=>rfl
  | false=>
   simp only[zY8]
   rcases h k with _|(_|⟨_,xs,fl⟩|_)
   ·rfl
   ·rfl
   ·dsimp only
    cases fl.nest with
    |false=>rfl
    |true=>
     simp only[zYk]
     cases wC (wE K h xs)<;>rfl
   ·rfl
 |ptr k i off=>refine ZA ?_;unfold wN;cases K.contains k<;>rfl
 |_=>rfl
theorem TN {x:AV} (h:x.nokey=true):wC x.cells=true:=by
 by_cases ha:x.isAgg=true
 ·cases x<;>first
   |exact h
   |(simp[AV.isAgg]at ha)
 ·rw[ZA (by simpa using ha)];simp[wC,h]
theorem vP (K:List Nat) (h:yH):∀(cs:List AV),(uO K h cs).length=cs.length
 | []=>rfl
 |x::r=>by simp[uO,vP K h r]
theorem AM:∀(cs:List AV) (i:Nat),(wkL cs)[i]? =(cs[i]?).map XO
 | [],i=>by simp[wkL]
 |x::r,0=>by simp[wkL]
 |x::r,i+1=>by simp[wkL,AM r i]
theorem dD:∀(cs:List AV),(wkL cs).length=cs.length
 | []=>rfl
 |x::r=>by simp[wkL,dD r]
theorem zBo:∀cs:List AV,wkL cs=cs.map XO
 | []=>rfl
 |x::r=>by simp[wkL,zBo r]
theorem xE.wk {w:World} {D:Nat->Prop}:∀{v:AV} {c:Value},xE w D v c->xE w D (XO v) c:=by
 intro v c hv
 induction hv with
 |bot c=>exact .bot c
 |gh n c=>exact .gh n c
 |s v=>
  unfold XO;split
  ·exact .nil _ _
  ·exact .s _
 | agg cs c hl h1 _ ih=>
  exact .agg _ c (by rw[dD];exact hl) h1 λi v hv=>by
   rw[AM,zXn]at hv;obtain⟨u,hu,rfl⟩:=hv;exact ih i u hu
 |nil a cap=>exact .nil _ _
 |nil1 a cap=>exact .nil _ _
 |sl nn xs b o sz cap f hx hL hc hh _=>exact .sl false xs b o sz cap f hx hL hc hh
 |slc cap xs b o sz f hL hc hh _=>exact .slc cap xs b o sz f hL hc hh
 |fp xs b o sz i off f hL hi ho hh _=>exact .fp xs b o sz i off f hL hi ho hh
theorem zV.wk {w:World} {D:Nat->Prop} {h:yH} {β:uB}:∀{v:AV} {c:Value},zV w D h β v c->zV w D h β (XO v) c:=by
 intro v c hv
 have key:∀{cs:List AV} {c:Array Value} (ih:∀(i:Nat) v,cs[i]? =some v->zV w D h β (XO v) (c.getD i undef)) (i:Nat) v,(wkL cs)[i]? =some v->zV w D h β v (c.getD i undef):=λih i v hv=>by
  rw[AM,zXn]at hv;obtain⟨u,hu,rfl⟩:=hv;exact ih i u hu
 induction hv with
 |fz v c hf=>exact .fz _ _ hf.wk
 |agg cs c hl h1 _ ih=>exact .agg _ c (by rw[dD];exact hl) h1 (key ih)
 |fn f caps c hl _ ih=>exact .fn f _ c (by rw[dD];exact hl) (key ih)
 |tup vs c hl _ ih=>exact .tup _ c (by rw[dD];exact hl) (key ih)
 |dref k off len c hk h1=>exact .dref _ _ _ _ hk h1
 |dptr k i off c hk h1=>exact .dptr _ _ _ _ hk h1
 |ref k off len sz xs st b n cap hk hb hn hc hs=>exact .ref k off len sz xs st b n cap hk hb hn hc hs
 |ref0 k off sz xs st a hk hn=>exact .ref0 k off sz xs st a hk hn
 |pbox k off cs b n hk hb=>exact .pbox k off cs b n hk hb
 |parr k i off sz xs st b n hk hb hi ho=>exact .parr k i off sz xs st b n hk hb hi ho
theorem xE.free {w:World} {D D':Nat->Prop}:∀{v:AV} {c:Value},xE w D v c->v.nosl=true->xE w D' v c:=by
 intro v c hv
 induction hv with
 |bot c=>exact λ_=> .bot c
 |gh n c=>exact λ_=> .gh n c
 |s v=>exact λ_=> .s v
 |agg cs c hl h1 _ ih=>exact λhn=> .agg cs c hl h1 λi v hv=>ih i v hv (kH (by simpa [AV.nosl]using hn) hv)
 |_=>intro hn;simp[AV.nosl]at hn
theorem zV.fz0 {w:World} {X:Nat->Prop} {h:yH} {β:uB} (H:kI X h β w) {K:List Nat} {h':yH} {β':uB} {D':Nat->Prop}
  (hk:∀k,k∈K->∀e,h k=some e->match e with| .box _=>∃cs',h' k=some (.box cs')| .arr sz xs _=>∃xs' st',h' k=some (.arr sz xs' st')/\xs.length=xs'.length| .dead=>h' k=some .dead) (hβ:∀k,k∈K->β' k=β k) (hD:∀b,b<w.heap.size->¬xF X β b->¬D' b)
  {v:AV} {c:Value} (hv:zV w (xF X β) h β v c):(∀k,k∈v.refs->k∈K∨∀b n,(b,n)∈β k->¬D' b)->zV w D' h' β' (vN K h v) c:=by
 have key:∀{cs:List AV} {c:Array Value} (ih:∀(i:Nat) v,cs[i]? =some v->(∀k,k∈v.refs->k∈K∨∀b n,(b,n)∈β k->¬D' b)->zV w D' h' β' (vN K h v) (c.getD i undef)) (hr:∀k,k∈qN cs->k∈K∨∀b n,(b,n)∈β k->¬D' b)
   (i:Nat) v,(wE K h cs)[i]? =some v->zV w D' h' β' v (c.getD i undef):=λih hr i v hv=>by
  rw[cQ,zXn]at hv;obtain⟨u,hu,rfl⟩:=hv;exact ih i u hu λk hk=>hr k (xR hu hk)
 have efz:∀{v c},xE w (xF X β) v c->xE w D' v c:=λhf=>hf.evo (zXc _) λb hb hd=>⟨rfl,hD b hb hd⟩
 have cont:∀{k},K.contains k=true↔k∈K:=λ{k}=>by simp
 induction hv with
 | fz v c hf=>
  intro _
  have:xE w D' (vN K h v) c:=by
   have h2:∀{v c},xE w (xF X β) v c->xE w D' (vN K h v) c:=by
    intro v c hf
    induction hf with
    |bot c=>exact .bot c
    |gh n c=>exact .gh n c
    |s v=>exact .s v
    | agg cs c hl h1 _ ih=>
     exact .agg _ c (by rw[qQ];exact hl) h1 λi v hv=>by
      rw[cQ,zXn]at hv;obtain⟨u,hu,rfl⟩:=hv;exact ih i u hu
    |nil a cap=>exact .nil _ _
    |nil1 a cap=>exact .nil1 _ _
    |sl nn xs b o sz cap f hx hL hc hh _=>exact efz (.sl nn xs b o sz cap f hx hL hc hh)
    |slc cap xs b o sz f hL hc hh _=>exact efz (.slc cap xs b o sz f hL hc hh)
    |fp xs b o sz i off f hL hi ho hh _=>exact efz (.fp xs b o sz i off f hL hi ho hh)
   exact h2 hf
  exact .fz _ _ this
 |agg cs c hl h1 _ ih=>exact λhr=> .agg _ c (by rw[qQ];exact hl) h1 (key ih hr)
 |fn f caps c hl _ ih=>exact λhr=> .fn f _ c (by rw[qQ];exact hl) (key ih hr)
 |tup vs c hl _ ih=>exact λhr=> .tup _ c (by rw[qQ];exact hl) (key ih hr)
 |dref k off len c hk' h1=>
  intro hr;unfold vN
  cases hc:K.contains k with
  |true=>exact .dref _ _ _ _ (hk k (cont.1 hc) _ hk') h1
  |false=>simp only[hk',zY8];exact .fz _ _ (.bot _)
 |dptr k i off c hk' h1=>
  intro hr;unfold vN
  cases hc:K.contains k with
  |true=>exact .dptr _ _ _ _ (hk k (cont.1 hc) _ hk') h1
  |false=>exact .fz _ _ (.bot _)
 | ref k off len sz xs st b n cap hk' hb hn hc' hs=>
  intro hr;unfold vN
  cases hc:K.contains k with
  |true=>obtain⟨xs',st',hk2,_⟩:=hk k (cont.1 hc) _ hk';exact .ref k off len sz xs' st' b n cap hk2 (by rw[hβ k (cont.1 hc)];exact hb) hn hc' hs
  | false=>
   simp only[hk',zY8]
   cases hnest:st.nest with
   |true=>exact .fz _ _ (.bot _)
   |false=>
   simp only[zY8];have hnK:¬k∈K:=λh=>by rw[cont.2 h]at hc;cases hc
   have hfree:=(hr k (by simp[AV.refs])).resolve_left hnK;obtain⟨g1,g2,g3,g4,g5,f,g6,g7,g8⟩:=H.ent k _ hk'
   have hnx:n<=xs.length:=by
    cases hbk:β k with
    |nil=>rw[hbk]at hb;simp at hb
    |cons q rr=>
     obtain⟨b0,n0⟩:=q;obtain⟨e1,_,e3⟩:=g5 b0 n0 rr hbk;rw[hbk]at hb;simp at hb
     rcases hb with⟨_,rfl⟩|hb
     ·omega
     ·exact yB3 (e3 b n hb)
   have hl:((xs.drop off).take len).length=len:=by simp;omega
   by_cases hz:len=0
   ·subst hz;simp only[yAc];exact .fz _ _ (.nil _ _)
   ·have hat:∀(i:Nat) y,((xs.drop off).take len)[i]? =some y->xs[off+i]? =some y:=λi y hy=>by
     rw[zYx]at hy;split at hy
     ·rwa [zZb]at hy
     ·cases hy
    obtain⟨cc,el,e1,e2,e3,_⟩:=g8 b n hb
    have:=xE.sl (w:=w) (D:=D') false ((xs.drop off).take len) b (off*sz) sz cap (λi j=>f (off+i) j) (λh0=>hz (by rw[<-hl,h0];rfl))
     ⟨H.lt b (.inr ⟨k,n,hb⟩),hfree b n hb,g1,by rw[hl];omega,λi y hy=>g4 _ y (hat i y hy),λi j hi hj=>by
      rw[hl]at hi;rw[uD e1,show off*sz+i*sz+j=(off+i)*sz+j by rw[zYb]]
      exact e3 _ _ (by omega) hj,λi j hi hj=>g7 _ _ zBs hj⟩ (by rw[hl];exact hc') (λi y j v hy hv=>efz (g6.toF hnest _ y j v (hat i y hy) hv))
    rw[hl]at this;exact .fz _ _ this
 | ref0 k off sz xs st a hk' hn=>
  intro hr;unfold vN
  cases hc:K.contains k with
  |true=>obtain⟨xs',st',hk2,hl2⟩:=hk k (cont.1 hc) _ hk';exact .ref0 k off sz xs' st' a hk2 (hl2▸hn)
  |false=>
   simp only[hk',zY8,yAc]
   cases st.nest with
   |true=>exact .fz _ _ (.bot _)
   |false=>exact .fz _ _ (.nil _ _)
 | pbox k off cs b n hk' hb=>
  intro hr;unfold vN
  cases hc:K.contains k with
  |true=>
   obtain⟨cs',h2⟩:=hk k (cont.1 hc) _ hk';exact .pbox k off cs' b n h2 (by rw[hβ k (cont.1 hc)];exact hb)
  |false=>exact .fz _ _ (.bot _)
 |parr k i off sz xs st b n hk' hb hi ho=>
  intro hr;unfold vN
  cases hc:K.contains k with
  |true=>obtain⟨xs',st',hk2,_⟩:=hk k (cont.1 hc) _ hk';exact .parr k i off sz xs' st' b n hk2 (by rw[hβ k (cont.1 hc)];exact hb) hi ho
  |false=>exact .fz _ _ (.bot _)
theorem zV.frz {w:World} {X:Nat->Prop} {h:yH} {β:uB} (H:kI X h β w) {K:List Nat} {h':yH} {β':uB} {D':Nat->Prop}
  (hk:∀k,k∈K->∀e,h k=some e->match e with| .box _=>∃cs',h' k=some (.box cs')| .arr sz xs _=>∃xs' st',h' k=some (.arr sz xs' st')/\xs.length=xs'.length| .dead=>h' k=some .dead) (hβ:∀k,k∈K->β' k=β k) (hD:∀b,b<w.heap.size->¬xF X β b->¬D' b) (hfr:∀k,¬k∈K->∀b n,(b,n)∈β k->¬D' b)
  {v:AV} {c:Value} (hv:zV w (xF X β) h β v c):zV w D' h' β' (wN K h v) c:=by
 have key:∀{cs:List AV} {c:Array Value} (ih:∀(i:Nat) v,cs[i]? =some v->zV w D' h' β' (wN K h v) (c.getD i undef))
   (i:Nat) v,(uO K h cs)[i]? =some v->zV w D' h' β' v (c.getD i undef):=λih i v hv=>by
  rw[bJ,zXn]at hv;obtain⟨u,hu,rfl⟩:=hv;exact ih i u hu
 have efz:∀{v c},xE w (xF X β) v c->xE w D' v c:=λhf=>hf.evo (zXc _) λb hb hd=>⟨rfl,hD b hb hd⟩
 have cont:∀{k},K.contains k=true↔k∈K:=λ{k}=>by simp
 induction hv with
 | fz v c hf=>
  have:xE w D' (wN K h v) c:=by
   have h2:∀{v c},xE w (xF X β) v c->xE w D' (wN K h v) c:=by
    intro v c hf
    induction hf with
    |bot c=>exact .bot c
    |gh n c=>exact .gh n c
    |s v=>exact .s v
    | agg cs c hl h1 _ ih=>
     exact .agg _ c (by rw[vP];exact hl) h1 λi v hv=>by
      rw[bJ,zXn]at hv;obtain⟨u,hu,rfl⟩:=hv;exact ih i u hu
    |nil a cap=>exact .nil _ _
    |nil1 a cap=>exact .nil1 _ _
    |sl nn xs b o sz cap f hx hL hc hh _=>exact efz (.sl nn xs b o sz cap f hx hL hc hh)
    |slc cap xs b o sz f hL hc hh _=>exact efz (.slc cap xs b o sz f hL hc hh)
    |fp xs b o sz i off f hL hi ho hh _=>exact efz (.fp xs b o sz i off f hL hi ho hh)
   exact h2 hf
  exact .fz _ _ this
 |agg cs c hl h1 _ ih=>exact .agg _ c (by rw[vP];exact hl) h1 (key ih)
 |fn f caps c hl _ ih=>exact .fn f _ c (by rw[vP];exact hl) (key ih)
 |tup vs c hl _ ih=>exact .tup _ c (by rw[vP];exact hl) (key ih)
 |dref k off len c hk' h1=>
  unfold wN
  cases hc:K.contains k with
  |true=>exact .dref _ _ _ _ (hk k (cont.1 hc) _ hk') h1
  |false=>simp only[hk',zY8];exact .fz _ _ (.bot _)
 |dptr k i off c hk' h1=>
  unfold wN
  cases hc:K.contains k with
  |true=>exact .dptr _ _ _ _ (hk k (cont.1 hc) _ hk') h1
  |false=>exact .fz _ _ (.bot _)
 | ref k off len sz xs st b n cap hk' hb hn hc' hs=>
  unfold wN
  cases hc:K.contains k with
  |true=>obtain⟨xs',st',hk2,_⟩:=hk k (cont.1 hc) _ hk';exact .ref k off len sz xs' st' b n cap hk2 (by rw[hβ k (cont.1 hc)];exact hb) hn hc' hs
  | false=>
   simp only[hk',zY8];have hnK:¬k∈K:=λh=>by rw[cont.2 h]at hc;cases hc
   have hfree:=hfr k hnK;obtain⟨g1,g2,g3,g4,g5,f,g6,g7,g8⟩:=H.ent k _ hk'
   have hnx:n<=xs.length:=by
    cases hbk:β k with
    |nil=>rw[hbk]at hb;simp at hb
    |cons q rr=>
     obtain⟨b0,n0⟩:=q;obtain⟨e1,_,e3⟩:=g5 b0 n0 rr hbk;rw[hbk]at hb;simp at hb
     rcases hb with⟨_,rfl⟩|hb
     ·omega
     ·exact yB3 (e3 b n hb)
   cases hnest:st.nest with
   | true=>
    simp only[zYk]
    cases hnk:wC (wE K h xs)with
    |false=>exact .fz _ _ (.bot _)
    |true=>
    simp only[zYk];have hl0:(wE K h xs).length=xs.length:=qQ K h xs;have hl:(((wE K h xs).drop off).take len).length=len:=by simp[hl0];omega
    by_cases hz:len=0
    ·subst hz;simp only[yAc];exact .fz _ _ (.nil _ _)
    have hat:∀(i:Nat) y,(((wE K h xs).drop off).take len)[i]? =some y->∃x,xs[off+i]? =some x/\y=vN K h x:=λi y hy=>by
     rw[zYx]at hy;split at hy
     ·rw[zZb,cQ,zXn]at hy;obtain⟨x,hx,rfl⟩:=hy;exact⟨x,hx,rfl⟩
     ·cases hy
    obtain⟨cc,el,e1,e2,e3,_⟩:=g8 b n hb
    have:=xE.sl (w:=w) (D:=D') false (((wE K h xs).drop off).take len) b (off*sz) sz cap (λi j=>f (off+i) j) (λh0=>hz (by rw[<-hl,h0];rfl))
     ⟨H.lt b (.inr ⟨k,n,hb⟩),hfree b n hb,g1,by rw[hl];omega,λi y hy=>by
      obtain⟨x,hx,rfl⟩:=hat i y hy;rw[PF,qQ]
      exact g4 _ x hx,λi j hi hj=>by
      rw[hl]at hi;rw[uD e1,show off*sz+i*sz+j=(off+i)*sz+j by rw[zYb]]
      exact e3 _ _ (by omega) hj,λi j hi hj=>g7 _ _ zBs hj⟩ (by rw[hl];exact hc') (λi y j v hy hv=>by
      obtain⟨x,hx,rfl⟩:=hat i y hy;have hyk:(vN K h x).nokey=true:=kO hnk (show(wE K h xs)[off+i]? =some (vN K h x) by rw[cQ,hx];rfl);have hvk:v.nokey=true:=kO (TN hyk) hv;rw[PF,cQ,zXn]at hv;obtain⟨u,hu,rfl⟩:=hv
      exact(zV.fz0 H hk hβ hD (g6.toV _ x j u hx hu) λk' _=>by
       by_cases hk2:k'∈K
       ·exact .inl hk2
       ·exact .inr (hfr k' hk2)).toF hvk)
    rw[hl]at this;exact .fz _ _ this
   |false=>
   simp only[zY8];have hl:((xs.drop off).take len).length=len:=by simp;omega
   by_cases hz:len=0
   ·subst hz;simp only[yAc];exact .fz _ _ (.nil _ _)
   ·have hat:∀(i:Nat) y,((xs.drop off).take len)[i]? =some y->xs[off+i]? =some y:=λi y hy=>by
     rw[zYx]at hy;split at hy
     ·rwa [zZb]at hy
     ·cases hy
    obtain⟨cc,el,e1,e2,e3,_⟩:=g8 b n hb
    have:=xE.sl (w:=w) (D:=D') false ((xs.drop off).take len) b (off*sz) sz cap (λi j=>f (off+i) j) (λh0=>hz (by rw[<-hl,h0];rfl))
     ⟨H.lt b (.inr ⟨k,n,hb⟩),hfree b n hb,g1,by rw[hl];omega,λi y hy=>g4 _ y (hat i y hy),λi j hi hj=>by
      rw[hl]at hi;rw[uD e1,show off*sz+i*sz+j=(off+i)*sz+j by rw[zYb]]
      exact e3 _ _ (by omega) hj,λi j hi hj=>g7 _ _ zBs hj⟩ (by rw[hl];exact hc') (λi y j v hy hv=>efz (g6.toF hnest _ y j v (hat i y hy) hv))
    rw[hl]at this;exact .fz _ _ this
 | ref0 k off sz xs st a hk' hn=>
  unfold wN
  cases hc:K.contains k with
  |true=>obtain⟨xs',st',hk2,hl2⟩:=hk k (cont.1 hc) _ hk';exact .ref0 k off sz xs' st' a hk2 (hl2▸hn)
  | false=>
   simp only[hk',zY8,yAc]
   cases st.nest with
   |true=>
    simp only[zYk]
    cases wC (wE K h xs)with
    |true=>exact .fz _ _ (.nil _ _)
    |false=>exact .fz _ _ (.bot _)
   |false=>exact .fz _ _ (.nil _ _)
 | pbox k off cs b n hk' hb=>
  unfold wN
  cases hc:K.contains k with
  |true=>
   obtain⟨cs',h2⟩:=hk k (cont.1 hc) _ hk';exact .pbox k off cs' b n h2 (by rw[hβ k (cont.1 hc)];exact hb)
  |false=>exact .fz _ _ (.bot _)
 |parr k i off sz xs st b n hk' hb hi ho=>
  unfold wN
  cases hc:K.contains k with
  |true=>obtain⟨xs',st',hk2,_⟩:=hk k (cont.1 hc) _ hk';exact .parr k i off sz xs' st' b n hk2 (by rw[hβ k (cont.1 hc)];exact hb) hi ho
  |false=>exact .fz _ _ (.bot _)
def qR (K:List Nat) (h:yH):xN->xN
 | .box cs=> .box (uO K h cs)
 | .arr sz xs fl=>bif fl.nest then .arr sz (uO K h xs) ⟨fl.stale,!wC (uO K h xs)⟩else .arr sz xs fl
 | .dead=> .dead
theorem jU (K:List Nat) (h:yH) (sz:Nat) (xs:List AV) (fl:Fl):∃xs' fl',qR K h (.arr sz xs fl)= .arr sz xs' fl'/\xs'.length=xs.length:=by
 cases hn:fl.nest with
 |true=>exact⟨_,_,by simp only[qR,hn,zYk];rfl,vP K h xs⟩
 |false=>exact⟨_,_,by simp only[qR,hn,zY8];rfl,rfl⟩
theorem JK {K:List Nat} {h:yH} {v:AV} {i:Nat} (hv:wN K h v= .gh i):v= .gh i:=by
 cases v<;>first
  |exact hv
  |(simp[wN]at hv;done)
  |skip
 ·exfalso;rename_i k _ _;unfold wN at hv
  cases hc:K.contains k<;>rw[hc]at hv
  ·simp only[zY8]at hv;split at hv
   ·rename_i fl _
    cases hn:Fl.nest fl<;>rw[hn]at hv
    ·cases hv
    ·simp only[zYk]at hv;generalize wC _=q at hv
     cases q<;>cases hv
   ·cases hv
  ·cases hv
 ·exfalso;rename_i k _ _;unfold wN at hv
  cases hc:K.contains k<;>rw[hc]at hv<;>cases hv
def wS (K:List Nat) (h:yH):List (Nat×xN)
 :=K.filterMap λk=>(h k).map λe=>(k,qR K h e)
def restr (K ts:List Nat) (st:St):St:=⟨ts.map λt=>(t,wN K (zC st.h) (zG st.tm t)),wS K (zC st.h)⟩
theorem xW (K:List Nat) (h:yH) (k:Nat):zC (wS K h) k=if k∈K then(h k).map (qR K h)else none:=by
 unfold wS;generalize qR K h=g
 induction K with
 |nil=>rfl
 | cons j K ih=>
  rw[List.filterMap_cons]
  cases hj:h j with
  |none=>
   simp only[yAf,ih,zYq];by_cases hkj:k=j
   ·subst hkj;simp[hj]
   ·simp[hkj]
  |some e=>
   simp only[Option.map_some,xI,ih,zYq];by_cases hkj:k=j
   ·subst hkj;simp[hj]
   ·simp[hkj]
theorem jC (K ts:List Nat) (st:St) (t:Nat):zG (restr K ts st).tm t=if t∈ts then wN K (zC st.h) (zG st.tm t)else .bot:=by
 unfold restr;dsimp only;generalize wN K (zC st.h)=g
 induction ts with
 |nil=>rfl
 |cons j ts ih=>
  simp only[zYi,yN,ih,zYq];by_cases htj:t=j
  ·subst htj;simp
  ·simp[htj]
theorem kI.restr {X:Nat->Prop} {h:yH} {β:uB} {w:World} (H:kI X h β w) (K:List Nat):
  kI X (zC (wS K h)) (λk=>if k∈K then β k else []) w/\∀v c,zV w (xF X β) h β v c->zV w (xF X λk=>if k∈K then β k else []) (zC (wS K h)) (λk=>if k∈K then β k else []) (wN K h v) c:=by
 have hsub:∀b,xF X (λk=>if k∈K then β k else []) b->xF X β b:=λb hd=>by
  rcases hd with hx|⟨k,n,hm⟩
  ·exact .inl hx
  ·(try dsimp only at hm)
   split at hm
   ·exact .inr ⟨k,n,hm⟩
   ·simp at hm
 have hv:∀v c,zV w (xF X β) h β v c->zV w (xF X λk=>if k∈K then β k else []) (zC (wS K h)) (λk=>if k∈K then β k else []) (wN K h v) c:=λv c hv=>by
  refine zV.frz H (K:=K) (λk hk e he=>?_) (λk hk=>by simp[hk]) (λb _ hd h'=>hd (hsub b h')) (λk hk b n hm=>?_) hv
  ·rw[xW,zW9 hk,he]
   cases e with
   |box cs=>exact⟨_,rfl⟩
   |arr sz xs fl=>
    cases hn:fl.nest with
    |true=>exact⟨_,_,by simp only[Option.map_some,qR,hn,zYk];rfl,(vP K h xs).symm⟩
    |false=>exact⟨_,_,by simp only[Option.map_some,qR,hn,zY8];rfl,rfl⟩
   |dead=>rfl
  ·rintro(hx|⟨k',n',hm'⟩)
   ·exact H.free k b n hm hx
   ·(try dsimp only at hm')
    split at hm'
    ·rename_i hk';exact hk (H.disj k k' b n n' hm hm'▸hk')
    ·simp at hm'
 have ef:∀{v c},xE w (xF X β) v c->xE w (xF X λk=>if k∈K then β k else []) v c:=λhf=>hf.evo (zXc _) λb _ hd=>⟨rfl,λh'=>hd (hsub b h')⟩
 refine⟨⟨λk e he=>?_,λk he=>?_,λk k' b n n' h1 h2=>?_,λk b n hm=>?_,λb hd=>H.lt b (hsub b hd)⟩,hv⟩
 ·rw [xW]at he;split at he
  ·rename_i hk;rw[zXn]at he;obtain⟨e0,he0,rfl⟩:=he;have:=H.ent k e0 he0
   cases e0 with
   |dead=>show(if k∈K then β k else [])=[];rw[zW9 hk];exact this
   |box cs=>
    obtain⟨b,c,el,h1,h2,h3,h4,h5⟩:=this;refine⟨b,c,el,by(try dsimp only);rw[zW9 hk];exact h1,h2,by rw[vP];exact h3,h4,λi v hi=>?_⟩;rw[bJ,zXn]at hi;obtain⟨u,hu,rfl⟩:=hi;exact hv u _ (h5 i u hu)
   | arr sz xs st=>
    obtain⟨g1,g2,g3,g4,g5,f,g6,g7,g8⟩:=this
    cases hn:st.nest with
    |false=>
     simp only[qR,hn,zY8];exact⟨g1,g2,by(try dsimp only);rw[zW9 hk];exact g3,g4,by(try dsimp only);rw[zW9 hk];exact g5,f,.ofF λi x j v hx hy=>ef (g6.toF hn i x j v hx hy),g7,by(try dsimp only);rw[zW9 hk];exact g8⟩
    | true=>
     simp only[qR,hn,zYk];have hl:=vP K h xs
     have hat:∀(i:Nat) y,(uO K h xs)[i]? =some y->∃x,xs[i]? =some x/\y=wN K h x:=λi y hy=>by
      rw[bJ,zXn]at hy;obtain⟨x,hx,rfl⟩:=hy;exact⟨x,hx,rfl⟩
     refine⟨g1,by rw[hl];exact g2,λh0=>by(try dsimp only);rw[zW9 hk];exact g3 (λh1=>h0 (by rw[h1];rfl)),λi y hy=>?_,by(try dsimp only);rw[zW9 hk,hl];exact g5,f,λi y j v hy hv2=>?_,by rw[hl];exact g7,by(try dsimp only);rw[zW9 hk];exact g8⟩
     ·obtain⟨x,hx,rfl⟩:=hat i y hy;rw[PG,vP];exact g4 i x hx
     ·obtain⟨x,hx,rfl⟩:=hat i y hy
      have hR:zV w (xF X λk=>if k∈K then β k else []) (zC (wS K h)) (λk=>if k∈K then β k else []) v (f i j):=by
       rw[PG,bJ,zXn]at hv2;obtain⟨u,hu,rfl⟩:=hv2;exact hv u _ (g6.toV i x j u hx hu)
      exact⟨hR,λh0=>hR.toF (kO (TN (kO (by simpa using h0) hy)) hv2)⟩
  ·cases he
 ·(try dsimp only)
  split
  ·rename_i hk;rw[xW,zW9 hk]at he
   cases hk':h k with
   |none=>exact H.off k hk'
   |some e=>simp[hk']at he
  ·rfl
 ·(try dsimp only at h1 h2)
  split at h1<;>split at h2
  ·exact H.disj _ _ _ _ _ h1 h2
  ·simp at h2
  ·simp at h1
  ·simp at h1
 ·(try dsimp only at hm)
  split at hm
  ·exact H.free k b n hm
  ·simp at hm
theorem wH.restr {K0:List Nat} {F:Fr K0} {m:Nat} {st:St} {a:Act} {w:World} (R:wH F m st a w) (K ts:List Nat) (hK:K0.all (K.contains ·)=true):wH F m (restr K ts st) a w:=by
 obtain⟨⟨X,β,hX,H,Ht,KK,hJ,hD⟩,nd,gs,hl⟩:=R;obtain⟨H',hv⟩:=H.restr K;refine⟨⟨X,_,hX,H',λt=>?_,⟨λk e he=>?_,KK.size,KK.keep,λk b n hm=>?_,λk b n hm=>?_,KK.bs,KK.os,KK.tape,KK.output⟩,λi hi=>?_,hD⟩,λk=>?_,gs,hl⟩
 ·rw[jC];split
  ·exact hv _ _ (Ht t)
  ·exact .fz _ _ (.bot _)
 ·have hk:k∈K:=by
   have:=zXm.1 hK k (F.hh k e he);simpa using this
  have h1:=KK.knd k e he;have hr:∀e',zC st.h k=some e'->zC (wS K (zC st.h)) k=some (qR K (zC st.h) e'):=λe' h2=>by rw[xW,zW9 hk,h2];rfl
  cases e with
  |dead=>exact h1
  |box cs=>obtain⟨cs',h2⟩:=h1;exact⟨_,hr _ h2⟩
  |arr sz xs sl=>obtain⟨xs',sl',h2,h3⟩:=h1;obtain⟨xs2,fl2,h4,h5⟩:=jU K (zC st.h) sz xs' sl';exact⟨xs2,fl2,(hr _ h2).trans (by rw[h4]),by rw[h5];exact h3⟩
 ·(try dsimp only at hm)
  split at hm
  ·exact KK.own k b n hm
  ·simp at hm
 ·have hk:k∈K:=by
   have:=zXm.1 hK k (F.hK k b n hm);simpa using this
  (try dsimp only)
  rw[zW9 hk];exact KK.pas k b n hm
 ·rw[jC]at hi;split at hi
  ·have h1:zG st.tm GS= .gh i:=JK hi;refine F.Jst i _ X w w _ (hJ i h1) (zXc _) (λ_ _ _=>rfl) (λb hb=>?_) (λb hb=>?_) rfl rfl rfl
   ·obtain⟨k,n,hm⟩:=hb
    (try dsimp only at hm)
    split at hm
    ·exact .inl ⟨k,n,hm⟩
    ·simp at hm
   ·obtain⟨k,n,hm⟩:=hb;exact H'.lt b (.inr ⟨k,n,hm⟩)
  ·cases hi
 ·show zC (wS K (zC st.h)) k≠some .dead
  rw[xW];split
  ·intro h;rw[zXn]at h;obtain⟨e,he,h2⟩:=h
   cases e with
   |dead=>exact nd k he
   |box cs=>cases h2
   |arr a b c=>obtain⟨xs2,fl2,h4,_⟩:=jU K (zC st.h) a b c;rw[h4]at h2;cases h2
  ·intro h;cases h
def cR (P:Program) (f:Nat):Prop:=∀(args:Array Value) (w:World),(callFunc f args).run P w= .ok (.enter f args) w
def yR (_:List AV) (_:List (Nat×xN)) (_:AV) (_:List (Nat×xN)):Prop:=True
theorem yG {a:List AV} {h0 h1:List (Nat×xN)} {r:AV}:yR a h0 r h1:=trivial
structure xO (P:Program) (f:Nat) (args:List AV) (h0:List (Nat×xN)) (r:AV) (h1:List (Nat×xN)):Prop where
 able:cR P f
 nd:∀k,zC h1 k≠some .dead
 sim:∀(X:Nat->Prop) (w:World) (β:uB) (cargs:Array Value),cargs.size=args.length->kI X (zC h0) β w->(∀(i:Nat) v,args[i]? =some v->zV w (xF X β) (zC h0) β v (cargs.getD i undef))->
  Calls P f cargs w λe w'=>∃c β',e= .returned c/\xM X w (zC h0) β w' (zC h1) β'/\zV w' (xF X β') (zC h1) β' r c
def xN.nosl:xN->Bool
 | .box cs=>PE cs
 | .arr _ xs _=>PE xs
 | .dead=>true
def PH:List (Nat×xN)->Bool
 | []=>true
 |(_,e)::r=>e.nosl&&PH r
theorem PI:∀{h:List (Nat×xN)} {k:Nat} {e:xN},PH h=true->zC h k=some e->e.nosl=true
 | [],k,e,_,he=>by simp[zC]at he
 |(j,e0)::r,k,e,hn,he=>by
  simp[PH]at hn;rw[xI]at he;split at he
  ·cases he;exact hn.1
  ·exact PI hn.2 he
def yD (h:List (Nat×xN)):List Nat:=h.map (·.1)
theorem vF:∀{h:List (Nat×xN)} {k:Nat} {e:xN},zC h k=some e->k∈yD h
 | [],k,e,he=>by simp[zC]at he
 |(j,e0)::r,k,e,he=>by
  rw[xI]at he;split at he
  ·rename_i h;simp[yD,h]
  ·have:=vF he;simp[yD]at this⊢;exact .inr this
theorem gH:∀{h:List (Nat×xN)} {k:Nat},k∈yD h->∃e,zC h k=some e
 | [],k,hk=>by simp[yD]at hk
 |(j,e0)::r,k,hk=>by
  rw[xI];split
  ·exact⟨_,rfl⟩
  ·rename_i h;simp only[yD,zYi,zYq]at hk;exact gH (hk.resolve_left h)
theorem gI:∀{h:List (Nat×xN)} {k:Nat} {e:xN},zC h k=some e->∃p∈h,p.2=e
 | [],k,e,he=>by simp[zC]at he
 |(j,e0)::r,k,e,he=>by
  rw[xI]at he;split at he
  ·cases he;exact⟨(j,e0),by simp,rfl⟩
  ·obtain⟨p,hp,h2⟩:=gI he;exact⟨p,by simp[hp],h2⟩
def clE (ks:List Nat):xN->Bool
 | .box cs=>(qN cs).all (ks.contains ·)
 | .arr _ xs fl=>bif fl.nest then(qN xs).all (ks.contains ·)else true
 | .dead=>true
theorem bK {x v:AV} {j:Nat} (h:x.cells[j]? =some v) {k:Nat} (hk:k∈v.refs):k∈x.refs:=by
 cases x<;>first
  |(simp[AV.cells]at h;cases j<;>simp at h;subst h;exact hk)
  |exact xR h hk
def zVu (K:List Nat) (h:yH) (v:AV):AV:=XO (vN K h v)
theorem zBp {args:Array Operand} {caps:List AV} {ρ:Operand->Value} {cv:Array Value} (g:Operand->AV) {i:Nat} {v:AV} (hc:cv.size=caps.length) (h:(args.toList.map g++caps)[i]? =some v):
  (∃x,x∈args/\g x=v/\(args.map ρ++cv).getD i undef=ρ x)∨∃j,caps[j]? =some v/\(args.map ρ++cv).getD i undef=cv.getD j undef:=by
 by_cases hi:i<args.size
 ·rw[zX3 EQ,zXd,zXn]at h;obtain⟨x,hx,rfl⟩:=h;have hx':args[i]? =some x:=by simpa using hx
  refine .inl ⟨x,Array.mem_of_getElem? hx',rfl,gW ?_⟩;rw[zZc EQ];simp[hx']
 ·rw[zX2 wQ]at h;refine .inr ⟨i-args.size,by simpa using h,?_⟩;have hlt:i-args.size<caps.length:=by simpa using (zXv.1 h).1
  apply gW;rw[yAx wQ];simpa using kP cv (i-args.size) (by omega)
section
variable {P:Program} {st:St}
theorem EH {X Xc:Nat->Prop} {w':World} {h h':yH} {β1 β':uB} (hh:∀k e,h k=some e->h' k=some e/\β' k=β1 k) (hD:∀b,xF X β' b->b<w'.heap.size->xF Xc β1 b∨False) {v:AV} {c:Value} (hv:zV w' (xF Xc β1) h β1 v c):zV w' (xF X β') h' β' v c:=by
 have ef:∀{v c},xE w' (xF Xc β1) v c->xE w' (xF X β') v c:=λhf=>hf.evo (zXc _) λb hb hd=>⟨rfl,λh'=>hd ((hD b h' hb).resolve_right id)⟩
 induction hv with
 |fz v c hf=>exact .fz _ _ (ef hf)
 |agg cs c hl h1 _ ih=>exact .agg cs c hl h1 ih
 |fn f caps c hl _ ih=>exact .fn f caps c hl ih
 |tup vs c hl _ ih=>exact .tup vs c hl ih
 |dref k off len c hk h1=>exact .dref _ _ _ _ (hh k _ hk).1 h1
 |dptr k i off c hk h1=>exact .dptr _ _ _ _ (hh k _ hk).1 h1
 |ref k off len sz xs st b n cap hk hb hn hc hs=>exact .ref k off len sz xs st b n cap (hh k _ hk).1 (by rw[(hh k _ hk).2];exact hb) hn hc hs
 |ref0 k off sz xs st a hk hn=>exact .ref0 k off sz xs st a (hh k _ hk).1 hn
 |pbox k off cs b n hk hb=>exact .pbox k off cs b n (hh k _ hk).1 (by rw[(hh k _ hk).2];exact hb)
 |parr k i off sz xs st b n hk hb hi ho=>exact .parr k i off sz xs st b n (hh k _ hk).1 (by rw[(hh k _ hk).2];exact hb) hi ho
theorem MP {X Xc:Nat->Prop} {w':World} {h h':yH} {β1 β':uB} (hh:∀k e,h k=some e->h' k=some e/\β' k=β1 k) {v:AV} {c:Value} (hv:zV w' (xF Xc β1) h β1 v c):v.nosl=true->zV w' (xF X β') h' β' v c:=by
 induction hv with
 |fz v c hf=>exact λhn=> .fz _ _ (hf.free hn)
 |agg cs c hl h1 _ ih=>exact λhn=> .agg cs c hl h1 λi v hv=>ih i v hv (kH (by simpa [AV.nosl]using hn) hv)
 |fn f caps c hl _ ih=>exact λhn=> .fn f caps c hl λi v hv=>ih i v hv (kH (by simpa [AV.nosl]using hn) hv)
 |tup vs c hl _ ih=>exact λhn=> .tup vs c hl λi v hv=>ih i v hv (kH (by simpa [AV.nosl]using hn) hv)
 |dref k off len c hk h1=>exact λ_=> .dref _ _ _ _ (hh k _ hk).1 h1
 |dptr k i off c hk h1=>exact λ_=> .dptr _ _ _ _ (hh k _ hk).1 h1
 |ref k off len sz xs st b n cap hk hb hn hc hs=>exact λ_=> .ref k off len sz xs st b n cap (hh k _ hk).1 (by rw[(hh k _ hk).2];exact hb) hn hc hs
 |ref0 k off sz xs st a hk hn=>exact λ_=> .ref0 k off sz xs st a (hh k _ hk).1 hn
 |pbox k off cs b n hk hb=>exact λ_=> .pbox k off cs b n (hh k _ hk).1 (by rw[(hh k _ hk).2];exact hb)
 |parr k i off sz xs st b n hk hb hi ho=>exact λ_=> .parr k i off sz xs st b n (hh k _ hk).1 (by rw[(hh k _ hk).2];exact hb) hi ho
theorem VN.lift {w:World} {D D':Nat->Prop} {h h':yH} {β β':uB} {k:Nat} {e:xN} (hb:β' k=β k) (hv:∀cs,e= .box cs->∀(i:Nat) v c,cs[i]? =some v->zV w D h β v c->zV w D' h' β' v c)
  (hf:∀sz xs st,e= .arr sz xs st->∀(i:Nat) (x:AV) (j:Nat) v c,xs[i]? =some x->x.cells[j]? =some v->(xE w D v c->xE w D' v c)/\(st.nest=true->zV w D h β v c->zV w D' h' β' v c)) (H:VN w D h β k e):VN w D' h' β' k e:=by
 cases e with
 |dead=>exact hb.trans H
 |box cs=>
  obtain⟨b,c,el,h1,h2,h3,h4,h5⟩:=H;exact⟨b,c,el,hb.trans h1,h2,h3,h4,λi v hi=>hv cs rfl i v _ hi (h5 i v hi)⟩
 | arr sz xs st=>
  obtain⟨h1,h2,h3,h4,h5,f,h6,h7,h8⟩:=H
  exact⟨h1,h2,by rwa [hb],h4,by rwa [hb],f,λi x j v hx hv=>by
   obtain⟨q1,q2⟩:=hf sz xs st rfl i x j v (f i j) hx hv
   cases hn:st.nest with
   |true=>exact⟨q2 hn (h6.toV i x j v hx hv),λh=>by cases h⟩
   |false=>exact⟨.fz _ _ (q1 (h6.toF hn i x j v hx hv)),λ_=>q1 (h6.toF hn i x j v hx hv)⟩,h7,by rwa [hb]⟩
theorem zI {f:Nat} {x:Operand} {args:Array Operand} {ats:Array Nat} {caps as':List AV} {h0 h1:List (Nat×xN)} {r:AV} (hc:xO P f as' h0 r h1) (hx:yL (zG st.tm) x= .fn f caps)
  (has:(args.toList.map (yL (zG st.tm))++caps).map (zVu (yD h0) (zC st.h))=as') (hh0:(yD h0).map (zC st.h)=(yD h0).map (zC h0)) (hcl:h0.all (λp=>clE (yD h0) p.2)=true)
  (hnb:((qN (args.toList.map (yL (zG st.tm))++caps)).all ((yD h0).contains ·)||(r.nosl&&PH h1))=true):
  wR P st (.call ⟨.value x,args,ats⟩) r h1 (yD h0++qN (args.toList.map (yL (zG st.tm))++caps)) ((yD h1).filter λk=>!(yD h0).contains k):=by
 refine⟨?_⟩;intro X tm h hg hr hn o a w β ho HH Ht;obtain⟨dst,op',type,pos,after,guard⟩:=o;dsimp only at ho;subst ho;have hfv:=jL Ht hg (x:=x) qF hx
 obtain⟨cv,hfx,hcvl,hcv⟩:∃cv:Array Value,a.eval x= .func (.func f) #[] cv/\cv.size=caps.length/\∀(i:Nat) v,caps[i]? =some v->zV w (xF X β) h β v (cv.getD i undef):=by
  generalize a.eval x=cx at hfv
  cases hfv with
  |fz _ _ hf=>cases hf
  |fn _ _ c hl hh=>exact⟨c,rfl,hl,hh⟩
 have hrun:(execOp a.eval ⟨dst,.call ⟨.value x,args,ats⟩,type,pos,after,guard⟩).run P w= .ok (.enter f (args.map a.eval++cv)) w:=by
  have hab:=hc.able (args.map a.eval++cv) w;simp[execOp,resolve,hfx,Deferred.ofValue,invoke,hab]
 rw[hrun]
 have hK:∀k,k∈yD h0->h k=zC h0 k:=λk hk=>by
  rw[hr k PQ];obtain⟨i,hi⟩:=yAn hk;have:=zX7 (·[i]?) hh0;simpa [hi]using this
 have hoff0:∀k,zC h0 k=none->¬k∈yD h0:=λk hk hm=>by
  obtain⟨e,he⟩:=gH hm;rw[hk]at he;cases he
 let βc:uB:=λk=>if k∈yD h0 then β k else []
 have hβc:∀k,k∈yD h0->βc k=β k:=λk hk=>by simp[βc,hk]
 have hβn:∀k,¬k∈yD h0->βc k=[]:=λk hk=>by simp[βc,hk]
 have hβm:∀k b n,(b,n)∈βc k->k∈yD h0/\(b,n)∈β k:=λk b n hm=>by
  by_cases hk:k∈yD h0
  ·rw[hβc k hk]at hm;exact⟨hk,hm⟩
  ·rw[hβn k hk]at hm;simp at hm
 let lent:Bool:=!(qN (args.toList.map (yL (zG st.tm))++caps)).all ((yD h0).contains ·)
 let Xc:Nat->Prop:=λb=>X b∨(lent=false/\∃k n,¬k∈yD h0/\(b,n)∈β k)
 have hDc:∀b,xF Xc βc b->xF X β b:=λb hd=>by
  rcases hd with(hx|⟨_,k,n,_,hm⟩)|⟨k,n,hm⟩
  ·exact .inl hx
  ·exact .inr ⟨k,n,hm⟩
  ·exact .inr ⟨k,n,(hβm k b n hm).2⟩
 have hclosed:∀k e,zC h0 k=some e->clE (yD h0) e=true:=λk e hk=>by
  obtain⟨p,hp,he⟩:=gI hk;have:=zXm.1 hcl p hp;rw[he]at this;exact this
 have hfrz:∀{v c},zV w (xF X β) h β v c->(∀k,k∈v.refs->k∈yD h0∨∀b n,(b,n)∈β k->¬xF Xc βc b)->zV w (xF Xc βc) (zC h0) βc (vN (yD h0) h v) c:=λhv hrf=>
  zV.fz0 HH (λk hk e he=>by
   rw[hK k hk]at he
   cases e with
   |box cs=>exact⟨cs,he⟩
   |arr sz xs fl=>exact⟨xs,fl,he,rfl⟩
   |dead=>exact he) hβc (λb _ hd h'=>hd (hDc b h')) hv hrf
 have hclv:∀{v c},zV w (xF X β) h β v c->(∀k,k∈v.refs->k∈yD h0)->zV w (xF Xc βc) (zC h0) βc v c:=by
  intro v c hv;have ef:∀{v c},xE w (xF X β) v c->xE w (xF Xc βc) v c:=λhf=>hf.evo (zXc _) λb _ hd=>⟨rfl,λh'=>hd (hDc b h')⟩
  induction hv with
  |fz v c hf=>exact λ_=> .fz _ _ (ef hf)
  |agg cs c hl h1 _ ih=>exact λhr=> .agg cs c hl h1 λi v hv=>ih i v hv λk hk=>hr k (by simpa [AV.refs]using xR hv hk)
  |fn f caps c hl _ ih=>exact λhr=> .fn f caps c hl λi v hv=>ih i v hv λk hk=>hr k (by simpa [AV.refs]using xR hv hk)
  |tup vs c hl _ ih=>exact λhr=> .tup vs c hl λi v hv=>ih i v hv λk hk=>hr k (by simpa [AV.refs]using xR hv hk)
  |dref k off len c hk h1=>exact λhr=> .dref _ _ _ _ ((hK k (hr k (by simp[AV.refs])))▸hk) h1
  |dptr k i off c hk h1=>exact λhr=> .dptr _ _ _ _ ((hK k (hr k (by simp[AV.refs])))▸hk) h1
  |ref k off len sz xs st b n cap hk hb hn hc hs=>exact λhr=> .ref k off len sz xs st b n cap ((hK k (hr k (by simp[AV.refs])))▸hk) (by rw[hβc k (hr k (by simp[AV.refs]))];exact hb) hn hc hs
  |ref0 k off sz xs st a hk hn=>exact λhr=> .ref0 k off sz xs st a ((hK k (hr k (by simp[AV.refs])))▸hk) hn
  |pbox k off cs b n hk hb=>exact λhr=> .pbox k off cs b n ((hK k (hr k (by simp[AV.refs])))▸hk) (by rw[hβc k (hr k (by simp[AV.refs]))];exact hb)
  |parr k i off sz xs st b n hk hb hi ho=>exact λhr=> .parr k i off sz xs st b n ((hK k (hr k (by simp[AV.refs])))▸hk) (by rw[hβc k (hr k (by simp[AV.refs]))];exact hb) hi ho
 have Hc:kI Xc (zC h0) βc w:=by
  refine⟨λk e he=>?_,λk he=>hβn k (hoff0 k he),λk k' b n n' q1 q2=>HH.disj _ _ _ _ _ (hβm _ _ _ q1).2 (hβm _ _ _ q2).2,λk b n hm hx=>?_,λb hd=>HH.lt b (hDc b hd)⟩
  ·have hk:=vF he
   refine(HH.ent k e ((hK k hk).trans he)).lift (hβc k hk) (λcs hcs i v c hi hv=>hclv hv λj hj=>by
    have:=hclosed k e he;rw[hcs]at this
    simpa using zXm.1 this j (xR hi hj)) λsz xs fl hxs i x j v c hi hj=>⟨λhf=>hf.evo (zXc _) λb _ hd=>⟨rfl,λh'=>hd (hDc b h')⟩,λhn hv=>hclv hv λq hq=>by
    have:=hclosed k e he;rw[hxs]at this;simp only[clE,hn,zYk]at this
    simpa using zXm.1 this q (xR hi (bK hj hq))⟩
  ·obtain⟨hk,hm⟩:=hβm k b n hm
   rcases hx with hx|⟨_,k',n',hk',hm'⟩
   ·exact HH.free k b n hm hx
   ·exact hk' (HH.disj k k' b n n' hm hm'▸hk)
 have hargs:∀(i:Nat) v,(args.toList.map (yL (zG st.tm))++caps)[i]? =some v->zV w (xF X β) h β v ((args.map a.eval++cv).getD i undef):=λi v hi=>by
  rcases zBp (ρ:=a.eval) (yL (zG st.tm)) hcvl hi with⟨y,hy,rfl,he⟩|⟨j,hj,he⟩
  ·rw[he]
   exact jL Ht hg (by
    simp only[Op.operands,Call.operands,Array.mem_append]
    exact .inr hy) rfl
  ·rw[he];exact hcv j v hj
 have hrefs:∀(i:Nat) v,(args.toList.map (yL (zG st.tm))++caps)[i]? =some v->∀k,k∈v.refs->k∈yD h0∨∀b n,(b,n)∈β k->¬xF Xc βc b:=λi v hi k hk=>by
  by_cases hk0:k∈yD h0
  ·exact .inl hk0
  ·refine .inr λb n hm hd=>?_
   have hlent:lent=true:=by
    cases hl:lent with
    |true=>rfl
    |false=>
     simp only[lent,Bool.not_eq_false']at hl;have:=zXm.1 hl k (xR hi hk);exact absurd EU hk0
   rcases hd with(hx|⟨hf,_⟩)|⟨k',n',hm'⟩
   ·exact HH.free k b n hm hx
   ·rw[hlent]at hf;cases hf
   ·obtain⟨q1,q2⟩:=hβm k' b n' hm';exact hk0 (HH.disj k k' b n n' hm q2▸q1)
 have hfreq:∀(i:Nat) v,(args.toList.map (yL (zG st.tm))++caps)[i]? =some v->vN (yD h0) (zC st.h) v=vN (yD h0) h v:=by
  have main:∀v:AV,(∀k,k∈v.refs->h k=zC st.h k)->vN (yD h0) (zC st.h) v=vN (yD h0) h v:=by
   intro v
   refine AV.rec (motive_1:=λv=>(∀k,k∈v.refs->h k=zC st.h k)->vN (yD h0) (zC st.h) v=vN (yD h0) h v)
    (motive_2:=λcs=>(∀k,k∈qN cs->h k=zC st.h k)->wE (yD h0) (zC st.h) cs=wE (yD h0) h cs) ?_ ?_ ?_ ?_ ?_ ?_ ?_ ?_ ?_ ?_ ?_ ?_ ?_ v
   ·exact λ_=>rfl
   ·exact λ_ _=>rfl
   ·exact λ_ _=>rfl
   ·exact λcs ih hk=>by simp only[vN];rw[ih (by simpa [AV.refs]using hk)]
   ·exact λ_ _ _ _=>rfl
   ·exact λ_ _ _ _=>rfl
   ·exact λk off len hk=>by simp only[vN];rw[hk k (by simp[AV.refs])]
   ·exact λ_ _ _ _=>rfl
   ·exact λ_ _ _ _ _=>rfl
   ·exact λf cs ih hk=>by simp only[vN];rw[ih (by simpa [AV.refs]using hk)]
   ·exact λcs ih hk=>by simp only[vN];rw[ih (by simpa [AV.refs]using hk)]
   ·exact λ_=>rfl
   ·exact λv r ihv ihr hk=>by
     simp only[wE];rw[ihv λk h=>hk k (by simp[qN,h]),ihr λk h=>hk k (by simp[qN,h])]
  exact λi v hi=>main v λk hk=>hr k (by simp[xR hi hk])
 have hsim:=hc.sim Xc w βc (args.map a.eval++cv) (by rw[<-has];simp[hcvl]) Hc (λi v hi=>by
  rw[<-has,zXd,zXn]at hi;obtain⟨u,hu,rfl⟩:=hi;unfold zVu;rw[hfreq i u hu]
  exact(hfrz (hargs i u hu) (hrefs i u hu)).wk)
 refine Calls.mono hsim ?_;rintro e w' ⟨c,β1,he,G,hv⟩;refine⟨c,he,?_⟩;have hlive:=G.lives Hc hc.nd
 let β':uB:=λk=>if(zC h1 k).isSome then β1 k else β k
 have hb1:∀k e,zC h1 k=some e->β' k=β1 k:=λk e hk=>by simp[β',hk]
 have hb2:∀k,zC h1 k=none->β' k=β k:=λk hk=>by simp[β',hk]
 have hin:∀k,k∈yD h0->∃e,zC h1 k=some e:=λk hk=>by
  obtain⟨e,he⟩:=gH hk
  rcases G.key k e he with h2|h2
  ·exact⟨_,h2⟩
  ·cases e with
   |dead=>exact h2.elim
   |box cs=>exact⟨_,h2.1.choose_spec⟩
   |arr sz xs st=>obtain⟨xs',st',h3,_⟩:=h2.1;exact⟨_,h3⟩
 have hnew:∀k e,zC h1 k=some e->¬k∈yD h0->h k=none:=λk e hk hk0=>hn k (by
  simp only[yAj,zZl,List.contains_eq_mem,zXu]
  exact⟨vF hk,hk0⟩)
 have ov1:∀k e,zC h1 k=some e->over h1 h k=some e:=λk e hk=>by simp[over,hk]
 have ov2:∀k,zC h1 k=none->over h1 h k=h k:=λk hk=>by simp[over,hk]
 have hβ':∀k b n,(b,n)∈β' k->((∃e,zC h1 k=some e)/\(b,n)∈β1 k)∨(zC h1 k=none/\¬k∈yD h0/\(b,n)∈β k):=λk b n hm=>by
  cases hk:zC h1 k with
  |none=>rw[hb2 k hk]at hm;exact .inr ⟨rfl,(λh2=>by obtain⟨e,he⟩:=hin k h2;rw[hk]at he;cases he),hm⟩
  |some e=>rw[hb1 k e hk]at hm;exact .inl ⟨⟨e,rfl⟩,hm⟩
 have own1:∀k b n,(b,n)∈β1 k->(∃k' n',k'∈yD h0/\(b,n')∈β k')∨w.heap.size<=b:=λk b n hm=>by
  rcases G.own k b n hm with⟨k',n',h2⟩|h2
  ·obtain⟨q1,q2⟩:=hβm k' b n' h2;exact .inl ⟨k',n',q1,q2⟩
  ·exact .inr h2
 have keepK:∀b,b<w.heap.size->(∀k n,k∈yD h0->(b,n)∉β k)->w'.heap[b]? =w.heap[b]? :=λb hb hk=>G.keep b hb λk n hm=>by
  obtain⟨q1,q2⟩:=hβm k b n hm;exact hk k n q1 q2
 have keepO:∀k b n,¬k∈yD h0->(b,n)∈β k->w'.heap[b]? =w.heap[b]? :=λk b n hk hm=>keepK b (HH.lt b (.inr ⟨k,n,hm⟩)) λk' n' hk' hm'=>hk (HH.disj k k' b n n' hm hm'▸hk')
 have bs':∀k b n,(b,n)∈β k->xX w' b=xX w b:=λk b n hm=>by
  by_cases hk:k∈yD h0
  ·exact G.bs k b n (by rw[hβc k hk];exact hm)
  ·unfold xX World.shape?;rw[keepO k b n hk hm]
 have key':∀k e,h k=some e->over h1 h k=some .dead∨match e with
   | .dead=>False
   | .box _=>(∃cs',over h1 h k=some (.box cs'))/\∀b n,(b,n)∈β k->(b,n)∈β' k
   | .arr sz xs _=>(∃xs' st',over h1 h k=some (.arr sz xs' st')/\xs.length<=xs'.length)/\∀b n,(b,n)∈β k->∃n',n<=n'/\(b,n')∈β' k:=λk e he=>by
  by_cases hk:k∈yD h0
  ·have he0:=(hK k hk)▸he;have:=G.key k e he0;obtain⟨e1,he1⟩:=hin k hk;rw[he1]at this;rw[ov1 k e1 he1,hb1 k e1 he1,<-hβc k hk];exact this
  ·have hno:zC h1 k=none:=by
    cases h2:zC h1 k with
    |none=>rfl
    |some e1=>rw[hnew k e1 h2 hk]at he;cases he
   rw[ov2 k hno,hb2 k hno];exact qS h β k e he
 have own':∀k b n,(b,n)∈β' k->(∃k' n',(b,n')∈β k')∨w.heap.size<=b:=λk b n hm=>by
  rcases hβ' k b n hm with⟨_,h2⟩|⟨_,_,h2⟩
  ·rcases own1 k b n h2 with⟨k',n',_,h3⟩|h3
   ·exact .inl ⟨k',n',h3⟩
   ·exact .inr h3
  ·exact .inl ⟨k,n,h2⟩
 have keep':∀b,b<w.heap.size->(∀k n,(b,n)∉β k)->w'.heap[b]? =w.heap[b]? :=λb hb hk=>keepK b hb λk n _=>hk k n
 have E:JP w (xF X β) h β w' (xF X β') (over h1 h) β':=by
  refine⟨G.size,λb hb hd=>?_,bs',key'⟩;have q1:∀k n,(b,n)∉β k:=λk n hm=>hd (.inr ⟨k,n,hm⟩)
  refine⟨keep' b hb q1,?_⟩;rintro(hx|⟨k,n,hm⟩)
  ·exact hd (.inl hx)
  ·rcases own' k b n hm with⟨k',n',h2⟩|h2
   ·exact q1 _ _ h2
   ·omega
 have hup:∀k e,zC h1 k=some e->over h1 h k=some e/\β' k=β1 k:=λk e hk=>⟨ov1 k e hk,hb1 k e hk⟩
 have hDl:lent=false->∀b,xF X β' b->xF Xc β1 b:=λhl b hd=>by
  rcases hd with hx|⟨k,n,hm⟩
  ·exact .inl (.inl hx)
  ·rcases hβ' k b n hm with⟨_,h2⟩|⟨_,h2,h3⟩
   ·exact .inr ⟨k,n,h2⟩
   ·exact .inl (.inr ⟨hl,k,n,h2,h3⟩)
 have hcase:lent=false∨(r.nosl=true/\PH h1=true):=by
  rw[zZe]at hnb
  rcases hnb with h2|h2
  ·left;show(!(_:Bool))=false;rw[h2];rfl
  ·right;simpa using h2
 have hliftV:∀{v c},(lent=false∨v.nosl=true)->zV w' (xF Xc β1) (zC h1) β1 v c->zV w' (xF X β') (over h1 h) β' v c:=λhl hv=>by
  rcases hl with hl|hl
  ·exact EH (h':=over h1 h) hup (λb hd _=> .inl (hDl hl b hd)) hv
  ·exact MP hup hv hl
 have hliftF:∀{v c},(lent=false∨v.nosl=true)->xE w' (xF Xc β1) v c->xE w' (xF X β') v c:=λhl hv=>by
  rcases hl with hl|hl
  ·exact hv.evo (zXc _) λb _ hd=>⟨rfl,λh'=>hd (hDl hl b h')⟩
  ·exact hv.free hl
 have HK:kI X (over h1 h) β' w':=by
  refine⟨λk e he=>?_,λk he=>?_,λk k' b n n' q1 q2=>?_,λk b n hm hx=>?_,λb hd=>?_⟩
  ·cases hk:zC h1 k with
   |none=>
    rw[ov2 k hk]at he;have hk0:¬k∈yD h0:=λh2=>by obtain⟨e1,he1⟩:=hin k h2;rw[hk]at he1;cases he1
    exact(HH.ent k e he).evo E (hb2 k hk) λb n hm=>keepO k b n hk0 hm
   | some e1=>
    rw[ov1 k e1 hk]at he;obtain rfl:=zZr he;have hns:lent=false∨e1.nosl=true:=hcase.imp id λh2=>PI h2.2 hk
    refine(G.hok.ent k e1 hk).lift (hb1 k e1 hk) (λcs hcs i v c hi hv=>hliftV (hns.imp id λh2=>kH (by rw[hcs]at h2;exact h2) hi) hv) λsz xs st hxs i x j v c hi hj=>by
     have hns':lent=false∨v.nosl=true:=hns.imp id λh2=>by
      have hxn:x.nosl=true:=kH (by rw[hxs]at h2;exact h2) hi
      cases x<;>first
       |(simp[AV.cells]at hj;cases j<;>simp at hj;subst hj;exact hxn)
       |(exact kH (by simpa [AV.nosl,AV.cells]using hxn) hj)
     exact⟨λhf=>hliftF hns' hf,λ_ hv=>hliftV hns' hv⟩
  ·cases hk:zC h1 k with
   |none=>rw[ov2 k hk]at he;rw[hb2 k hk];exact HH.off k he
   |some e1=>rw[ov1 k e1 hk]at he;cases he
  ·rcases hβ' k b n q1 with⟨_,h2⟩|⟨_,h2,h3⟩<;>rcases hβ' k' b n' q2 with⟨_,h4⟩|⟨_,h4,h5⟩
   ·exact G.hok.disj _ _ _ _ _ h2 h4
   ·rcases own1 k b n h2 with⟨j,m,hj,hm⟩|h6
    ·exact absurd (HH.disj j k' b m n' hm h5▸hj) h4
    ·have:=HH.lt b (.inr ⟨k',n',h5⟩);omega
   ·rcases own1 k' b n' h4 with⟨j,m,hj,hm⟩|h6
    ·exact absurd (HH.disj j k b m n hm h3▸hj) h2
    ·have:=HH.lt b (.inr ⟨k,n,h3⟩);omega
   ·exact HH.disj _ _ _ _ _ h3 h5
  ·rcases hβ' k b n hm with⟨_,h2⟩|⟨_,_,h3⟩
   ·exact G.hok.free k b n h2 (.inl hx)
   ·exact HH.free k b n h3 hx
  ·rcases hd with hx|⟨k,n,hm⟩
   ·exact zYh (HH.lt b (.inl hx)) G.size
   ·rcases hβ' k b n hm with⟨_,h2⟩|⟨_,_,h3⟩
    ·exact G.hok.lt b (.inr ⟨k,n,h2⟩)
    ·exact zYh (HH.lt b (.inr ⟨k,n,h3⟩)) G.size
 exact⟨β',⟨G.size,keep',own',bs',key',HK,G.os,G.tape,G.output⟩,hliftV (hcase.imp id (·.1)) hv⟩
end
end Av
end Go.Proofs.YtmamjhmoegjapaaGreat
