/- Part 5. -/
import Derived.Test.YteajjdidebfcjaaGreatN04
namespace Go.Proofs.YteajjdidebfcjaaGreat
namespace Av
set_option linter.all false
mutual
def AV.refs:AV->List Nat
 | .ref k _ _| .ptr k _ _=>[k]
 | .agg cs| .fn _ cs| .tup cs=>kT cs
 |_=>[]
def kT:List AV->List Nat
 | []=>[]
 |v::r=>v.refs++kT r
end
mutual
def AV.nosl:AV->Bool
 | .sl _ _| .slc _ _| .fp _ _ _| .fm _ _=>false
 | .agg cs| .fn _ cs| .tup cs=>OF cs
 |_=>true
def OF:List AV->Bool
 | []=>true
 |v::r=>v.nosl&&OF r
end
mutual
def uU (K:List Nat) (h:yD):AV->AV
 | .ref k off len=>bif K.contains k then .ref k off len else match h k with
  |some (.arr _ xs fl)=>bif fl.nest then .bot else .sl false ((xs.drop off).take len)
  |_=> .bot
 | .ptr k i off=>bif K.contains k then .ptr k i off else .bot
 | .agg cs=> .agg (wL K h cs)
 | .fn f cs=> .fn f (wL K h cs)
 | .tup cs=> .tup (wL K h cs)
 |v=>v
def wL (K:List Nat) (h:yD):List AV->List AV
 | []=>[]
 |v::r=>uU K h v::wL K h r
end
mutual
def wH (K:List Nat) (h:yD):AV->AV
 | .ref k off len=>bif K.contains k then .ref k off len else match h k with
  |some (.arr _ xs fl)=>bif fl.nest then(bif wD (wL K h xs)then .sl false (((wL K h xs).drop off).take len)else .bot)else .sl false ((xs.drop off).take len)
  |_=> .bot
 | .ptr k i off=>bif K.contains k then .ptr k i off else .bot
 | .agg cs=> .agg (uS K h cs)
 | .fn f cs=> .fn f (uS K h cs)
 | .tup cs=> .tup (uS K h cs)
 |v=>v
def uS (K:List Nat) (h:yD):List AV->List AV
 | []=>[]
 |v::r=>wH K h v::uS K h r
end
mutual
def XO:AV->AV
 | .s v=>match v with
  | .slice none 0 0=> .sl false []
  |v=> .s v
 | .sl _ xs=> .sl false xs
 | .agg cs=> .agg (wkL cs)
 | .fn f cs=> .fn f (wkL cs)
 | .tup cs=> .tup (wkL cs)
 |v=>v
def wkL:List AV->List AV
 | []=>[]
 |v::r=>XO v::wkL r
end
theorem wM:∀{cs:List AV} {i:Nat} {v:AV} {k:Nat},cs[i]? =some v->k∈v.refs->k∈kT cs
 | [],_,_,_,h,_=>by simp at h
 |x::r,0,v,k,h,hk=>by simp at h;subst h;simp[kT,hk]
 |x::r,i+1,v,k,h,hk=>by simp[kT,wM (show r[i]? =some v by simpa using h) hk]
theorem fE:∀{cs:List AV} {i:Nat} {v:AV},OF cs=true->cs[i]? =some v->v.nosl=true
 | [],_,_,_,h=>by simp at h
 |x::r,0,v,hk,h=>by simp at h;subst h;simp[OF]at hk;exact hk.1
 |x::r,i+1,v,hk,h=>by simp[OF]at hk;exact fE hk.2 HO
theorem bC (K:List Nat) (h:yD):∀(cs:List AV) (i:Nat),(uS K h cs)[i]? =(cs[i]?).map (wH K h)
 | [],i=>by simp[uS]
 |x::r,0=>by simp[uS]
 |x::r,i+1=>by simp[uS,bC K h r i]
theorem cK (K:List Nat) (h:yD):∀(cs:List AV) (i:Nat),(wL K h cs)[i]? =(cs[i]?).map (uU K h)
 | [],i=>by simp[wL]
 |x::r,0=>by simp[wL]
 |x::r,i+1=>by simp[wL,cK K h r i]
theorem qI (K:List Nat) (h:yD):∀(cs:List AV),(wL K h cs).length=cs.length
 | []=>rfl
 |x::r=>by simp[wL,qI K h r]
def aY {v:AV} (h:v.isAgg=false):v.cells=[v]:=by cases v<;>first|rfl|(simp[AV.isAgg]at h)
def OG (K:List Nat) (h:yD) (x:AV):(uU K h x).cells=wL K h x.cells:=by
 cases x with
 |agg cs=>rfl
 | ref k off len=>
  refine aY ?_;unfold uU
  cases K.contains k with
  |true=>rfl
  | false=>
   simp only[yDc]
   rcases h k with _|(_|⟨_,_,fl⟩|_|_)
   ·rfl
   ·rfl
   ·dsimp only
    cases fl.nest<;>rfl
   ·rfl
   ·rfl
 |ptr k i off=>refine aY ?_;unfold uU;cases K.contains k<;>rfl
 |_=>rfl
def OH (K:List Nat) (h:yD) (x:AV):(wH K h x).cells=uS K h x.cells:=by
 cases x with
 |agg cs=>rfl
 | ref k off len=>
  refine aY ?_;unfold wH
  cases K.contains k with
  |true=>rfl
  | false=>
   simp only[yDc]
   rcases h k with _|(_|⟨_,xs,fl⟩|_|_)
   ·rfl
   ·rfl
   ·dsimp only
    cases fl.nest with
    |false=>rfl
    |true=>
     simp only[yCu]
     cases wD (wL K h xs)<;>rfl
   ·rfl
   ·rfl
 |ptr k i off=>refine aY ?_;unfold wH;cases K.contains k<;>rfl
 |_=>rfl
def ST {x:AV} (h:x.nokey=true):wD x.cells=true:=by
 by_cases ha:x.isAgg=true
 ·cases x<;>first
   |exact h
   |(simp[AV.isAgg]at ha)
 ·rw[aY (by simpa using ha)];simp[wD,h]
theorem vN (K:List Nat) (h:yD):∀(cs:List AV),(uS K h cs).length=cs.length
 | []=>rfl
 |x::r=>by simp[uS,vN K h r]
theorem zBg:∀(cs:List AV) (i:Nat),(wkL cs)[i]? =(cs[i]?).map XO
 | [],i=>by simp[wkL]
 |x::r,0=>by simp[wkL]
 |x::r,i+1=>by simp[wkL,zBg r i]
theorem eW:∀(cs:List AV),(wkL cs).length=cs.length
 | []=>rfl
 |x::r=>by simp[wkL,eW r]
theorem zD5:∀cs:List AV,wkL cs=cs.map XO
 | []=>rfl
 |x::r=>by simp[wkL,zD5 r]
theorem xG.wk {w:World} {D:Nat->Prop}:∀{v:AV} {c:Value},xG w D v c->xG w D (XO v) c:=by
 intro v c hv
 induction hv with
 |bot c=>exact .bot c
 |gh n c=>exact .gh n c
 |s v=>
  unfold XO;split
  ·exact .nil _ _
  ·exact .s _
 | agg cs c hl h1 _ ih=>
  exact .agg _ c (by rw[eW];exact hl) h1 λi v hv=>by
   rw[zBg,yBs]at hv;obtain⟨u,hu,rfl⟩:=hv;exact ih i u hu
 |nil a cap=>exact .nil _ _
 |nil1 a cap=>exact .nil _ _
 |sl nn xs b o sz cap f hx hL hc hh _=>exact .sl false xs b o sz cap f hx hL hc hh
 |slc cap xs b o sz f hL hc hh _=>exact .slc cap xs b o sz f hL hc hh
 |fp xs b o sz i off f hL hi ho hh _=>exact .fp xs b o sz i off f hL hi ho hh
 |fm ob p b x ho hl hd hx hp=>exact .fm ob p b x ho hl hd hx hp
theorem zU.wk {w:World} {D:Nat->Prop} {h:yD} {β:vM}:∀{v:AV} {c:Value},zU w D h β v c->zU w D h β (XO v) c:=by
 intro v c hv
 have key:∀{cs:List AV} {c:Array Value} (ih:∀(i:Nat) v,cs[i]? =some v->zU w D h β (XO v) (c.getD i undef)) (i:Nat) v,(wkL cs)[i]? =some v->zU w D h β v (c.getD i undef):=λih i v hv=>by
  rw[zBg,yBs]at hv;obtain⟨u,hu,rfl⟩:=hv;exact ih i u hu
 induction hv with
 |fz v c hf=>exact .fz _ _ hf.wk
 |agg cs c hl h1 _ ih=>exact .agg _ c (by rw[eW];exact hl) h1 (key ih)
 |fn f caps c hl _ ih=>exact .fn f _ c (by rw[eW];exact hl) (key ih)
 |tup vs c hl _ ih=>exact .tup _ c (by rw[eW];exact hl) (key ih)
 |dref k off len c hk h1=>exact .dref _ _ _ _ hk h1
 |dptr k i off c hk h1=>exact .dptr _ _ _ _ hk h1
 |ref k off len sz xs st b n cap hk hb hn hc hs=>exact .ref k off len sz xs st b n cap hk hb hn hc hs
 |ref0 k off sz xs st a hk hn=>exact .ref0 k off sz xs st a hk hn
 |pbox k off cs b n hk hb=>exact .pbox k off cs b n hk hb
 |parr k i off sz xs st b n hk hb hi ho=>exact .parr k i off sz xs st b n hk hb hi ho
theorem xG.free {w:World} {D D':Nat->Prop}:∀{v:AV} {c:Value},xG w D v c->v.nosl=true->xG w D' v c:=by
 intro v c hv
 induction hv with
 |bot c=>exact λ_=> .bot c
 |gh n c=>exact λ_=> .gh n c
 |s v=>exact λ_=> .s v
 |agg cs c hl h1 _ ih=>exact λhn=> .agg cs c hl h1 λi v hv=>ih i v hv (fE (by simpa [AV.nosl]using hn) hv)
 |_=>intro hn;simp[AV.nosl]at hn
theorem zU.fz0 {w:World} {X:Nat->Prop} {h:yD} {β:vM} (H:qX X h β w) {K:List Nat} {h':yD} {β':vM} {D':Nat->Prop}
  (hk:∀k,k∈K->∀e,h k=some e->match e with| .box _=>∃cs',h' k=some (.box cs')| .obj _=>∃cs',h' k=some (.obj cs')| .arr sz xs _=>∃xs' st',h' k=some (.arr sz xs' st')/\xs.length=xs'.length| .dead=>h' k=some .dead) (hβ:∀k,k∈K->β' k=β k) (hD:∀b,b<w.heap.size->¬xP X β b->¬D' b)
  {v:AV} {c:Value} (hv:zU w (xP X β) h β v c):(∀k,k∈v.refs->k∈K∨∀b n,(b,n)∈β k->¬D' b)->zU w D' h' β' (uU K h v) c:=by
 have key:∀{cs:List AV} {c:Array Value} (ih:∀(i:Nat) v,cs[i]? =some v->(∀k,k∈v.refs->k∈K∨∀b n,(b,n)∈β k->¬D' b)->zU w D' h' β' (uU K h v) (c.getD i undef)) (hr:∀k,k∈kT cs->k∈K∨∀b n,(b,n)∈β k->¬D' b)
   (i:Nat) v,(wL K h cs)[i]? =some v->zU w D' h' β' v (c.getD i undef):=λih hr i v hv=>by
  rw[cK,yBs]at hv;obtain⟨u,hu,rfl⟩:=hv;exact ih i u hu λk hk=>hr k (wM hu hk)
 have efz:∀{v c},xG w (xP X β) v c->xG w D' v c:=λhf=>hf.evo (yBg _) λb hb hd=>⟨rfl,hD b hb hd⟩
 have cont:∀{k},K.contains k=true↔k∈K:=λ{k}=>by simp
 induction hv with
 | fz v c hf=>
  intro _
  have:xG w D' (uU K h v) c:=by
   have h2:∀{v c},xG w (xP X β) v c->xG w D' (uU K h v) c:=by
    intro v c hf
    induction hf with
    |bot c=>exact .bot c
    |gh n c=>exact .gh n c
    |s v=>exact .s v
    | agg cs c hl h1 _ ih=>
     exact .agg _ c (by rw[qI];exact hl) h1 λi v hv=>by
      rw[cK,yBs]at hv;obtain⟨u,hu,rfl⟩:=hv;exact ih i u hu
    |nil a cap=>exact .nil _ _
    |nil1 a cap=>exact .nil1 _ _
    |sl nn xs b o sz cap f hx hL hc hh _=>exact efz (.sl nn xs b o sz cap f hx hL hc hh)
    |slc cap xs b o sz f hL hc hh _=>exact efz (.slc cap xs b o sz f hL hc hh)
    |fp xs b o sz i off f hL hi ho hh _=>exact efz (.fp xs b o sz i off f hL hi ho hh)
    |fm ob p b x ho hl hd hx hp=>exact efz (.fm ob p b x ho hl hd hx hp)
   exact h2 hf
  exact .fz _ _ this
 |agg cs c hl h1 _ ih=>exact λhr=> .agg _ c (by rw[qI];exact hl) h1 (key ih hr)
 |fn f caps c hl _ ih=>exact λhr=> .fn f _ c (by rw[qI];exact hl) (key ih hr)
 |tup vs c hl _ ih=>exact λhr=> .tup _ c (by rw[qI];exact hl) (key ih hr)
 |dref k off len c hk' h1=>
  intro hr;unfold uU
  cases hc:K.contains k with
  |true=>exact .dref _ _ _ _ (hk k (cont.1 hc) _ hk') h1
  |false=>simp only[hk',yDc];exact .fz _ _ (.bot _)
 |dptr k i off c hk' h1=>
  intro hr;unfold uU
  cases hc:K.contains k with
  |true=>exact .dptr _ _ _ _ (hk k (cont.1 hc) _ hk') h1
  |false=>exact .fz _ _ (.bot _)
 | ref k off len sz xs st b n cap hk' hb hn hc' hs=>
  intro hr;unfold uU
  cases hc:K.contains k with
  |true=>obtain⟨xs',st',hk2,_⟩:=hk k (cont.1 hc) _ hk';exact .ref k off len sz xs' st' b n cap hk2 (by rw[hβ k (cont.1 hc)];exact hb) hn hc' hs
  | false=>
   simp only[hk',yDc]
   cases hnest:st.nest with
   |true=>exact .fz _ _ (.bot _)
   |false=>
   simp only[yDc];have hnK:¬k∈K:=λh=>by rw[cont.2 h]at hc;cases hc
   have hfree:=(hr k (by simp[AV.refs])).resolve_left hnK;obtain⟨g1,g2,g3,g4,g5,f,g6,g7,g8⟩:=H.ent k _ hk'
   have hnx:n<=xs.length:=by
    cases hbk:β k with
    |nil=>rw[hbk]at hb;simp at hb
    |cons q rr=>
     obtain⟨b0,n0⟩:=q;obtain⟨e1,_,e3⟩:=g5 b0 n0 rr hbk;rw[hbk]at hb;simp at hb
     rcases hb with⟨_,rfl⟩|hb
     ·omega
     ·exact yGj (e3 b n hb)
   have hl:((xs.drop off).take len).length=len:=by simp;omega
   by_cases hz:len=0
   ·subst hz;simp only[yEb];exact .fz _ _ (.nil _ _)
   ·have hat:∀(i:Nat) y,((xs.drop off).take len)[i]? =some y->xs[off+i]? =some y:=λi y hy=>by
     rw[yC6]at hy;split at hy
     ·rwa [yDl]at hy
     ·cases hy
    obtain⟨cc,el,e1,e2,e3,_⟩:=g8 b n hb
    have:=xG.sl (w:=w) (D:=D') false ((xs.drop off).take len) b (off*sz) sz cap (λi j=>f (off+i) j) (λh0=>hz (by rw[<-hl,h0];rfl))
     ⟨H.lt b (.inr ⟨k,n,hb⟩),hfree b n hb,g1,by rw[hl];omega,λi y hy=>g4 _ y (hat i y hy),λi j hi hj=>by
      rw[hl]at hi;rw[uD e1,show off*sz+i*sz+j=(off+i)*sz+j by rw[yCn]]
      exact e3 _ _ (by omega) hj,λi j hi hj=>g7 _ _ zD9 hj⟩ (by rw[hl];exact hc') (λi y j v hy hv=>efz (g6.toF hnest _ y j v (hat i y hy) hv))
    rw[hl]at this;exact .fz _ _ this
 | ref0 k off sz xs st a hk' hn=>
  intro hr;unfold uU
  cases hc:K.contains k with
  |true=>obtain⟨xs',st',hk2,hl2⟩:=hk k (cont.1 hc) _ hk';exact .ref0 k off sz xs' st' a hk2 (hl2▸hn)
  |false=>
   simp only[hk',yDc,yEb]
   cases st.nest with
   |true=>exact .fz _ _ (.bot _)
   |false=>exact .fz _ _ (.nil _ _)
 | pbox k off cs b n hk' hb=>
  intro hr;unfold uU
  cases hc:K.contains k with
  |true=>
   obtain⟨cs',h2⟩:=hk k (cont.1 hc) _ hk';exact .pbox k off cs' b n h2 (by rw[hβ k (cont.1 hc)];exact hb)
  |false=>exact .fz _ _ (.bot _)
 |parr k i off sz xs st b n hk' hb hi ho=>
  intro hr;unfold uU
  cases hc:K.contains k with
  |true=>obtain⟨xs',st',hk2,_⟩:=hk k (cont.1 hc) _ hk';exact .parr k i off sz xs' st' b n hk2 (by rw[hβ k (cont.1 hc)];exact hb) hi ho
  |false=>exact .fz _ _ (.bot _)
theorem zU.frz {w:World} {X:Nat->Prop} {h:yD} {β:vM} (H:qX X h β w) {K:List Nat} {h':yD} {β':vM} {D':Nat->Prop}
  (hk:∀k,k∈K->∀e,h k=some e->match e with| .box _=>∃cs',h' k=some (.box cs')| .obj _=>∃cs',h' k=some (.obj cs')| .arr sz xs _=>∃xs' st',h' k=some (.arr sz xs' st')/\xs.length=xs'.length| .dead=>h' k=some .dead) (hβ:∀k,k∈K->β' k=β k) (hD:∀b,b<w.heap.size->¬xP X β b->¬D' b) (hfr:∀k,¬k∈K->∀b n,(b,n)∈β k->¬D' b)
  {v:AV} {c:Value} (hv:zU w (xP X β) h β v c):zU w D' h' β' (wH K h v) c:=by
 have key:∀{cs:List AV} {c:Array Value} (ih:∀(i:Nat) v,cs[i]? =some v->zU w D' h' β' (wH K h v) (c.getD i undef))
   (i:Nat) v,(uS K h cs)[i]? =some v->zU w D' h' β' v (c.getD i undef):=λih i v hv=>by
  rw[bC,yBs]at hv;obtain⟨u,hu,rfl⟩:=hv;exact ih i u hu
 have efz:∀{v c},xG w (xP X β) v c->xG w D' v c:=λhf=>hf.evo (yBg _) λb hb hd=>⟨rfl,hD b hb hd⟩
 have cont:∀{k},K.contains k=true↔k∈K:=λ{k}=>by simp
 induction hv with
 | fz v c hf=>
  have:xG w D' (wH K h v) c:=by
   have h2:∀{v c},xG w (xP X β) v c->xG w D' (wH K h v) c:=by
    intro v c hf
    induction hf with
    |bot c=>exact .bot c
    |gh n c=>exact .gh n c
    |s v=>exact .s v
    | agg cs c hl h1 _ ih=>
     exact .agg _ c (by rw[vN];exact hl) h1 λi v hv=>by
      rw[bC,yBs]at hv;obtain⟨u,hu,rfl⟩:=hv;exact ih i u hu
    |nil a cap=>exact .nil _ _
    |nil1 a cap=>exact .nil1 _ _
    |sl nn xs b o sz cap f hx hL hc hh _=>exact efz (.sl nn xs b o sz cap f hx hL hc hh)
    |slc cap xs b o sz f hL hc hh _=>exact efz (.slc cap xs b o sz f hL hc hh)
    |fp xs b o sz i off f hL hi ho hh _=>exact efz (.fp xs b o sz i off f hL hi ho hh)
    |fm ob p b x ho hl hd hx hp=>exact efz (.fm ob p b x ho hl hd hx hp)
   exact h2 hf
  exact .fz _ _ this
 |agg cs c hl h1 _ ih=>exact .agg _ c (by rw[vN];exact hl) h1 (key ih)
 |fn f caps c hl _ ih=>exact .fn f _ c (by rw[vN];exact hl) (key ih)
 |tup vs c hl _ ih=>exact .tup _ c (by rw[vN];exact hl) (key ih)
 |dref k off len c hk' h1=>
  unfold wH
  cases hc:K.contains k with
  |true=>exact .dref _ _ _ _ (hk k (cont.1 hc) _ hk') h1
  |false=>simp only[hk',yDc];exact .fz _ _ (.bot _)
 |dptr k i off c hk' h1=>
  unfold wH
  cases hc:K.contains k with
  |true=>exact .dptr _ _ _ _ (hk k (cont.1 hc) _ hk') h1
  |false=>exact .fz _ _ (.bot _)
 | ref k off len sz xs st b n cap hk' hb hn hc' hs=>
  unfold wH
  cases hc:K.contains k with
  |true=>obtain⟨xs',st',hk2,_⟩:=hk k (cont.1 hc) _ hk';exact .ref k off len sz xs' st' b n cap hk2 (by rw[hβ k (cont.1 hc)];exact hb) hn hc' hs
  | false=>
   simp only[hk',yDc];have hnK:¬k∈K:=λh=>by rw[cont.2 h]at hc;cases hc
   have hfree:=hfr k hnK;obtain⟨g1,g2,g3,g4,g5,f,g6,g7,g8⟩:=H.ent k _ hk'
   have hnx:n<=xs.length:=by
    cases hbk:β k with
    |nil=>rw[hbk]at hb;simp at hb
    |cons q rr=>
     obtain⟨b0,n0⟩:=q;obtain⟨e1,_,e3⟩:=g5 b0 n0 rr hbk;rw[hbk]at hb;simp at hb
     rcases hb with⟨_,rfl⟩|hb
     ·omega
     ·exact yGj (e3 b n hb)
   cases hnest:st.nest with
   | true=>
    simp only[yCu]
    cases hnk:wD (wL K h xs)with
    |false=>exact .fz _ _ (.bot _)
    |true=>
    simp only[yCu];have hl0:(wL K h xs).length=xs.length:=qI K h xs;have hl:(((wL K h xs).drop off).take len).length=len:=by simp[hl0];omega
    by_cases hz:len=0
    ·subst hz;simp only[yEb];exact .fz _ _ (.nil _ _)
    have hat:∀(i:Nat) y,(((wL K h xs).drop off).take len)[i]? =some y->∃x,xs[off+i]? =some x/\y=uU K h x:=λi y hy=>by
     rw[yC6]at hy;split at hy
     ·rw[yDl,cK,yBs]at hy;obtain⟨x,hx,rfl⟩:=hy;exact⟨x,hx,rfl⟩
     ·cases hy
    obtain⟨cc,el,e1,e2,e3,_⟩:=g8 b n hb
    have:=xG.sl (w:=w) (D:=D') false (((wL K h xs).drop off).take len) b (off*sz) sz cap (λi j=>f (off+i) j) (λh0=>hz (by rw[<-hl,h0];rfl))
     ⟨H.lt b (.inr ⟨k,n,hb⟩),hfree b n hb,g1,by rw[hl];omega,λi y hy=>by
      obtain⟨x,hx,rfl⟩:=hat i y hy;rw[OG,qI]
      exact g4 _ x hx,λi j hi hj=>by
      rw[hl]at hi;rw[uD e1,show off*sz+i*sz+j=(off+i)*sz+j by rw[yCn]]
      exact e3 _ _ (by omega) hj,λi j hi hj=>g7 _ _ zD9 hj⟩ (by rw[hl];exact hc') (λi y j v hy hv=>by
      obtain⟨x,hx,rfl⟩:=hat i y hy;have hyk:(uU K h x).nokey=true:=kO hnk (show(wL K h xs)[off+i]? =some (uU K h x) by rw[cK,hx];rfl);have hvk:v.nokey=true:=kO (ST hyk) hv;rw[OG,cK,yBs]at hv;obtain⟨u,hu,rfl⟩:=hv
      exact(zU.fz0 H hk hβ hD (g6.toV _ x j u hx hu) λk' _=>by
       by_cases hk2:k'∈K
       ·exact .inl hk2
       ·exact .inr (hfr k' hk2)).toF hvk)
    rw[hl]at this;exact .fz _ _ this
   |false=>
   simp only[yDc];have hl:((xs.drop off).take len).length=len:=by simp;omega
   by_cases hz:len=0
   ·subst hz;simp only[yEb];exact .fz _ _ (.nil _ _)
   ·have hat:∀(i:Nat) y,((xs.drop off).take len)[i]? =some y->xs[off+i]? =some y:=λi y hy=>by
     rw[yC6]at hy;split at hy
     ·rwa [yDl]at hy
     ·cases hy
    obtain⟨cc,el,e1,e2,e3,_⟩:=g8 b n hb
    have:=xG.sl (w:=w) (D:=D') false ((xs.drop off).take len) b (off*sz) sz cap (λi j=>f (off+i) j) (λh0=>hz (by rw[<-hl,h0];rfl))
     ⟨H.lt b (.inr ⟨k,n,hb⟩),hfree b n hb,g1,by rw[hl];omega,λi y hy=>g4 _ y (hat i y hy),λi j hi hj=>by
      rw[hl]at hi;rw[uD e1,show off*sz+i*sz+j=(off+i)*sz+j by rw[yCn]]
      exact e3 _ _ (by omega) hj,λi j hi hj=>g7 _ _ zD9 hj⟩ (by rw[hl];exact hc') (λi y j v hy hv=>efz (g6.toF hnest _ y j v (hat i y hy) hv))
    rw[hl]at this;exact .fz _ _ this
 | ref0 k off sz xs st a hk' hn=>
  unfold wH
  cases hc:K.contains k with
  |true=>obtain⟨xs',st',hk2,hl2⟩:=hk k (cont.1 hc) _ hk';exact .ref0 k off sz xs' st' a hk2 (hl2▸hn)
  | false=>
   simp only[hk',yDc,yEb]
   cases st.nest with
   |true=>
    simp only[yCu]
    cases wD (wL K h xs)with
    |true=>exact .fz _ _ (.nil _ _)
    |false=>exact .fz _ _ (.bot _)
   |false=>exact .fz _ _ (.nil _ _)
 | pbox k off cs b n hk' hb=>
  unfold wH
  cases hc:K.contains k with
  |true=>
   obtain⟨cs',h2⟩:=hk k (cont.1 hc) _ hk';exact .pbox k off cs' b n h2 (by rw[hβ k (cont.1 hc)];exact hb)
  |false=>exact .fz _ _ (.bot _)
 |parr k i off sz xs st b n hk' hb hi ho=>
  unfold wH
  cases hc:K.contains k with
  |true=>obtain⟨xs',st',hk2,_⟩:=hk k (cont.1 hc) _ hk';exact .parr k i off sz xs' st' b n hk2 (by rw[hβ k (cont.1 hc)];exact hb) hi ho
  |false=>exact .fz _ _ (.bot _)
def qK (K:List Nat) (h:yD):xM->xM
 | .box cs=> .box (uS K h cs)
 | .obj cs=> .obj cs
 | .arr sz xs fl=>bif fl.nest then .arr sz (uS K h xs) ⟨fl.stale,!wD (uS K h xs)⟩else .arr sz xs fl
 | .dead=> .dead
def jY (K:List Nat) (h:yD) (sz:Nat) (xs:List AV) (fl:Fl):∃xs' fl',qK K h (.arr sz xs fl)= .arr sz xs' fl'/\xs'.length=xs.length:=by
 cases hn:fl.nest with
 |true=>exact⟨_,_,by simp only[qK,hn,yCu];rfl,vN K h xs⟩
 |false=>exact⟨_,_,by simp only[qK,hn,yDc];rfl,rfl⟩
def HI {K:List Nat} {h:yD} {v:AV} {i:Nat} (hv:wH K h v= .gh i):v= .gh i:=by
 cases v<;>first
  |exact hv
  |(simp[wH]at hv;done)
  |skip
 ·exfalso;rename_i k _ _;unfold wH at hv
  cases hc:K.contains k<;>rw[hc]at hv
  ·simp only[yDc]at hv;split at hv
   ·rename_i fl _
    cases hn:Fl.nest fl<;>rw[hn]at hv
    ·cases hv
    ·simp only[yCu]at hv;generalize wD _=q at hv
     cases q<;>cases hv
   ·cases hv
  ·cases hv
 ·exfalso;rename_i k _ _;unfold wH at hv
  cases hc:K.contains k<;>rw[hc]at hv<;>cases hv
def wS (K:List Nat) (h:yD):List (Nat×xM)
 :=K.filterMap λk=>(h k).map λe=>(k,qK K h e)
def restr (K ts:List Nat) (st:St):St:=⟨ts.map λt=>(t,wH K (zC st.h) (zG st.tm t)),wS K (zC st.h)⟩
def xX (K:List Nat) (h:yD) (k:Nat):zC (wS K h) k=if k∈K then(h k).map (qK K h)else none:=by
 unfold wS;generalize qK K h=g
 induction K with
 |nil=>rfl
 | cons j K ih=>
  rw[List.filterMap_cons]
  cases hj:h j with
  |none=>
   simp only[yEe,ih,yCk];by_cases hkj:k=j
   ·subst hkj;simp[hj]
   ·simp[hkj]
  |some e=>
   simp only[Option.map_some,xF,ih,yCk];by_cases hkj:k=j
   ·subst hkj;simp[hj]
   ·simp[hkj]
def jH (K ts:List Nat) (st:St) (t:Nat):zG (restr K ts st).tm t=if t∈ts then wH K (zC st.h) (zG st.tm t)else .bot:=by
 unfold restr;dsimp only;generalize wH K (zC st.h)=g
 induction ts with
 |nil=>rfl
 |cons j ts ih=>
  simp only[yCh,yE,ih,yCk];by_cases htj:t=j
  ·subst htj;simp
  ·simp[htj]
theorem qX.restr {X:Nat->Prop} {h:yD} {β:vM} {w:World} (H:qX X h β w) (K:List Nat):
  qX X (zC (wS K h)) (λk=>if k∈K then β k else []) w/\∀v c,zU w (xP X β) h β v c->zU w (xP X λk=>if k∈K then β k else []) (zC (wS K h)) (λk=>if k∈K then β k else []) (wH K h v) c:=by
 have hsub:∀b,xP X (λk=>if k∈K then β k else []) b->xP X β b:=λb hd=>by
  rcases hd with hx|⟨k,n,hm⟩
  ·exact .inl hx
  ·(try dsimp only at hm)
   split at hm
   ·exact .inr ⟨k,n,hm⟩
   ·simp at hm
 have hv:∀v c,zU w (xP X β) h β v c->zU w (xP X λk=>if k∈K then β k else []) (zC (wS K h)) (λk=>if k∈K then β k else []) (wH K h v) c:=λv c hv=>by
  refine zU.frz H (K:=K) (λk hk e he=>?_) (λk hk=>by simp[hk]) (λb _ hd h'=>hd (hsub b h')) (λk hk b n hm=>?_) hv
  ·rw[xX,yBd hk,he]
   cases e with
   |box cs=>exact⟨_,rfl⟩
   |obj cs=>exact⟨_,rfl⟩
   |arr sz xs fl=>
    cases hn:fl.nest with
    |true=>exact⟨_,_,by simp only[Option.map_some,qK,hn,yCu];rfl,(vN K h xs).symm⟩
    |false=>exact⟨_,_,by simp only[Option.map_some,qK,hn,yDc];rfl,rfl⟩
   |dead=>rfl
  ·rintro(hx|⟨k',n',hm'⟩)
   ·exact H.free k b n hm hx
   ·(try dsimp only at hm')
    split at hm'
    ·rename_i hk';exact hk (H.disj k k' b n n' hm hm'▸hk')
    ·simp at hm'
 have ef:∀{v c},xG w (xP X β) v c->xG w (xP X λk=>if k∈K then β k else []) v c:=λhf=>hf.evo (yBg _) λb _ hd=>⟨rfl,λh'=>hd (hsub b h')⟩
 refine⟨⟨λk e he=>?_,λk he=>?_,λk k' b n n' h1 h2=>?_,λk b n hm=>?_,λb hd=>H.lt b (hsub b hd)⟩,hv⟩
 ·rw [xX]at he;split at he
  ·rename_i hk;rw[yBs]at he;obtain⟨e0,he0,rfl⟩:=he;have:=H.ent k e0 he0
   cases e0 with
   |dead=>show(if k∈K then β k else [])=[];rw[yBd hk];exact this
   |box cs=>
    obtain⟨b,c,el,h1,h2,h3,h4,h5⟩:=this;refine⟨b,c,el,by(try dsimp only);rw[yBd hk];exact h1,h2,by rw[vN];exact h3,h4,λi v hi=>?_⟩;rw[bC,yBs]at hi;obtain⟨u,hu,rfl⟩:=hi;exact hv u _ (h5 i u hu)
   |obj cs=>
    exact⟨by(try dsimp only);rw[yBd hk];exact this.1,this.2⟩
   | arr sz xs st=>
    obtain⟨g1,g2,g3,g4,g5,f,g6,g7,g8⟩:=this
    cases hn:st.nest with
    |false=>
     simp only[qK,hn,yDc];exact⟨g1,g2,by(try dsimp only);rw[yBd hk];exact g3,g4,by(try dsimp only);rw[yBd hk];exact g5,f,.ofF λi x j v hx hy=>ef (g6.toF hn i x j v hx hy),g7,by(try dsimp only);rw[yBd hk];exact g8⟩
    | true=>
     simp only[qK,hn,yCu];have hl:=vN K h xs
     have hat:∀(i:Nat) y,(uS K h xs)[i]? =some y->∃x,xs[i]? =some x/\y=wH K h x:=λi y hy=>by
      rw[bC,yBs]at hy;obtain⟨x,hx,rfl⟩:=hy;exact⟨x,hx,rfl⟩
     refine⟨g1,by rw[hl];exact g2,λh0=>by(try dsimp only);rw[yBd hk];exact g3 (λh1=>h0 (by rw[h1];rfl)),λi y hy=>?_,by(try dsimp only);rw[yBd hk,hl];exact g5,f,λi y j v hy hv2=>?_,by rw[hl];exact g7,by(try dsimp only);rw[yBd hk];exact g8⟩
     ·obtain⟨x,hx,rfl⟩:=hat i y hy;rw[OH,vN];exact g4 i x hx
     ·obtain⟨x,hx,rfl⟩:=hat i y hy
      have hR:zU w (xP X λk=>if k∈K then β k else []) (zC (wS K h)) (λk=>if k∈K then β k else []) v (f i j):=by
       rw[OH,bC,yBs]at hv2;obtain⟨u,hu,rfl⟩:=hv2;exact hv u _ (g6.toV i x j u hx hu)
      exact⟨hR,λh0=>hR.toF (kO (ST (kO (by simpa using h0) hy)) hv2)⟩
  ·cases he
 ·(try dsimp only)
  split
  ·rename_i hk;rw[xX,yBd hk]at he
   cases hk':h k with
   |none=>exact H.off k hk'
   |some e=>simp[hk']at he
  ·rfl
 ·(try dsimp only at h1 h2)
  split at h1<;>split at h2
  ·exact H.disj _ _ _ _ _ h1 h2
  ·simp at h2
  ·simp at h1
  ·simp at h1
 ·(try dsimp only at hm)
  split at hm
  ·exact H.free k b n hm
  ·simp at hm
theorem xY.restrM {K0:List Nat} {F:Fr K0} {m:Nat} {st:St} {a:Act} {w:World} (R:xY F m st a w) (K ts:List Nat) (hK:K0.all (K.contains ·)=true) {tm':Nat->AV} (hg:tm' GS=zG (restr K ts st).tm GS)
  (ht:∀t,tm' t=zG (restr K ts st).tm t∨∃k b p,zC st.h k=some (.obj (b,p))/\¬k∈K/\zG st.tm t= .s (.map (some b))/\tm' t= .fm none p):YC F m tm' (zC (restr K ts st).h) a w:=by
 obtain⟨⟨X,β,hX,H,Ht,KK,hJ,hD⟩,nd,gs,hl⟩:=R;obtain⟨H',hv⟩:=H.restr K;refine⟨⟨X,_,hX,H',λt=>?_,⟨λk e he=>?_,KK.size,KK.keep,λk b n hm=>?_,λk b n hm=>?_,KK.bs,KK.os,KK.tape,KK.output⟩,λi hi=>?_,hD⟩,λk=>?_,gs,hl⟩
 ·rcases ht t with e|⟨k,b,p,h1,h2,h3,h4⟩
  ·rw[e,jH];split
   ·exact hv _ _ (Ht t)
   ·exact .fz _ _ (.bot _)
  ·obtain⟨g1,x,g2,g3⟩:=H.ent k _ h1;have hc:=Ht t;rw[h3]at hc;rw[h4]
   have e:a.eval (.tmp t)= .map (some b):=by
    generalize a.eval (.tmp t)=c at hc
    cases hc with
    |fz _ _ hf=>cases hf;rfl
   rw[e];have hm:(b,0)∈β k:=by rw[g1];exact yCf.2 Z
   refine .fz _ _ (.fm none p b x (λn h=>by cases h) (H.lt b (.inr ⟨k,0,hm⟩)) (λhd=>?_) g2 g3)
   rcases hd with hx|⟨j,n,hj⟩
   ·exact H.free k b 0 hm hx
   ·(try dsimp only at hj)
    split at hj
    ·rename_i hjK;rw[<-H.disj k j b 0 n hm hj]at hjK;exact h2 hjK
    ·simp at hj
 ·have hk:k∈K:=by
   have:=yBr.1 hK k (F.hh k e he);simpa using this
  have h1:=KK.knd k e he;have hr:∀e',zC st.h k=some e'->zC (wS K (zC st.h)) k=some (qK K (zC st.h) e'):=λe' h2=>by rw[xX,yBd hk,h2];rfl
  cases e with
  |dead=>exact h1
  |box cs=>obtain⟨cs',h2⟩:=h1;exact⟨_,hr _ h2⟩
  |obj cs=>obtain⟨cs',h2⟩:=h1;exact⟨_,hr _ h2⟩
  |arr sz xs sl=>obtain⟨xs',sl',h2,h3⟩:=h1;obtain⟨xs2,fl2,h4,h5⟩:=jY K (zC st.h) sz xs' sl';exact⟨xs2,fl2,(hr _ h2).trans (by rw[h4]),by rw[h5];exact h3⟩
 ·(try dsimp only at hm)
  split at hm
  ·exact KK.own k b n hm
  ·simp at hm
 ·have hk:k∈K:=by
   have:=yBr.1 hK k (F.hK k b n hm);simpa using this
  (try dsimp only)
  rw[yBd hk];exact KK.pas k b n hm
 ·rw[hg,jH]at hi;split at hi
  ·have h1:zG st.tm GS= .gh i:=HI hi;refine F.Jst i _ X w w _ (hJ i h1) (yBg _) (λ_ _ _=>rfl) (λb hb=>?_) (λb hb=>?_) Z Z Z
   ·obtain⟨k,n,hm⟩:=hb
    (try dsimp only at hm)
    split at hm
    ·exact .inl ⟨k,n,hm⟩
    ·simp at hm
   ·obtain⟨k,n,hm⟩:=hb;exact H'.lt b (.inr ⟨k,n,hm⟩)
  ·cases hi
 ·show zC (wS K (zC st.h)) k≠some .dead
  rw[xX];split
  ·intro h;rw[yBs]at h;obtain⟨e,he,h2⟩:=h
   cases e with
   |dead=>exact nd k he
   |box cs=>cases h2
   |obj cs=>cases h2
   |arr a b c=>obtain⟨xs2,fl2,h4,_⟩:=jY K (zC st.h) a b c;rw[h4]at h2;cases h2
  ·intro h;cases h
theorem xY.restr {K0:List Nat} {F:Fr K0} {m:Nat} {st:St} {a:Act} {w:World} (R:xY F m st a w) (K ts:List Nat) (hK:K0.all (K.contains ·)=true):xY F m (restr K ts st) a w:=
 R.restrM K ts hK Z λ_=> .inl Z
def cL (P:Program) (f:Nat):Prop:=∀(args:Array Value) (w:World),(callFunc f args).run P w= .ok (.enter f args) w
def yU (_:List AV) (_:List (Nat×xM)) (_:AV) (_:List (Nat×xM)):Prop:=True
def yF {a:List AV} {h0 h1:List (Nat×xM)} {r:AV}:yU a h0 r h1:=trivial
structure yG (P:Program) (f:Nat) (args:List AV) (h0:List (Nat×xM)) (r:AV) (h1:List (Nat×xM)):Prop where
 able:cL P f
 nd:∀k,zC h1 k≠some .dead
 sim:∀(X:Nat->Prop) (w:World) (β:vM) (cargs:Array Value),cargs.size=args.length->qX X (zC h0) β w->(∀(i:Nat) v,args[i]? =some v->zU w (xP X β) (zC h0) β v (cargs.getD i undef))->
  Calls P f cargs w λe w'=>∃c β',e= .returned c/\yW X w (zC h0) β w' (zC h1) β'/\zU w' (xP X β') (zC h1) β' r c
def xM.nosl:xM->Bool
 | .box cs=>OF cs
 | .obj cs=>true
 | .arr _ xs _=>OF xs
 | .dead=>true
def KA:List (Nat×xM)->Bool
 | []=>true
 |(_,e)::r=>e.nosl&&KA r
theorem BB:∀{h:List (Nat×xM)} {k:Nat} {e:xM},KA h=true->zC h k=some e->e.nosl=true
 | [],k,e,_,he=>by simp[zC]at he
 |(j,e0)::r,k,e,hn,he=>by
  simp[KA]at hn;rw[xF]at he;split at he
  ·cases he;exact hn.1
  ·exact BB hn.2 he
def yT (h:List (Nat×xM)):List Nat:=h.map (·.1)
theorem vS:∀{h:List (Nat×xM)} {k:Nat} {e:xM},zC h k=some e->k∈yT h
 | [],k,e,he=>by simp[zC]at he
 |(j,e0)::r,k,e,he=>by
  rw[xF]at he;split at he
  ·rename_i h;simp[yT,h]
  ·have:=vS he;simp[yT]at this⊢;exact .inr this
theorem cM:∀{h:List (Nat×xM)} {k:Nat},k∈yT h->∃e,zC h k=some e
 | [],k,hk=>by simp[yT]at hk
 |(j,e0)::r,k,hk=>by
  rw[xF];split
  ·exact⟨_,rfl⟩
  ·rename_i h;simp only[yT,yCh,yCk]at hk;exact cM (hk.resolve_left h)
theorem eX:∀{h:List (Nat×xM)} {k:Nat} {e:xM},zC h k=some e->∃p∈h,p.2=e
 | [],k,e,he=>by simp[zC]at he
 |(j,e0)::r,k,e,he=>by
  rw[xF]at he;split at he
  ·cases he;exact⟨(j,e0),by simp,rfl⟩
  ·obtain⟨p,hp,h2⟩:=eX he;exact⟨p,by simp[hp],h2⟩
def clE (ks:List Nat):xM->Bool
 | .box cs=>(kT cs).all (ks.contains ·)
 | .obj cs=>true
 | .arr _ xs fl=>bif fl.nest then(kT xs).all (ks.contains ·)else true
 | .dead=>true
def XP {x v:AV} {j:Nat} (h:x.cells[j]? =some v) {k:Nat} (hk:k∈v.refs):k∈x.refs:=by
 cases x<;>first
  |(simp[AV.cells]at h;cases j<;>simp at h;subst h;exact hk)
  |exact wM h hk
def yAw (K:List Nat) (h:yD) (v:AV):AV:=XO (uU K h v)
def zRa {args:Array Operand} {caps:List AV} {ρ:Operand->Value} {cv:Array Value} (g:Operand->AV) {i:Nat} {v:AV} (hc:cv.size=caps.length) (h:(args.toList.map g++caps)[i]? =some v):
  (∃x,x∈args/\g x=v/\(args.map ρ++cv).getD i undef=ρ x)∨∃j,caps[j]? =some v/\(args.map ρ++cv).getD i undef=cv.getD j undef:=by
 by_cases hi:i<args.size
 ·rw[yCi ON,yBh,yBs]at h;obtain⟨x,hx,rfl⟩:=h;have hx':args[i]? =some x:=by simpa using hx
  refine .inl ⟨x,Array.mem_of_getElem? hx',rfl,gY ?_⟩;rw[yDf ON];simp[hx']
 ·rw[yB9 wU]at h;refine .inr ⟨i-args.size,by simpa using h,?_⟩;have hlt:i-args.size<caps.length:=by simpa using (yB0.1 h).1
  apply gY;rw[yE8 wU];simpa using kP cv (i-args.size) (by omega)
section
variable {P:Program} {st:St}
def zMa {X Xc:Nat->Prop} {w':World} {h h':yD} {β1 β':vM} (hh:∀k e,h k=some e->h' k=some e/\β' k=β1 k) (hD:∀b,xP X β' b->b<w'.heap.size->xP Xc β1 b∨False) {v:AV} {c:Value} (hv:zU w' (xP Xc β1) h β1 v c):zU w' (xP X β') h' β' v c:=by
 have ef:∀{v c},xG w' (xP Xc β1) v c->xG w' (xP X β') v c:=λhf=>hf.evo (yBg _) λb hb hd=>⟨rfl,λh'=>hd ((hD b h' hb).resolve_right id)⟩
 induction hv with
 |fz v c hf=>exact .fz _ _ (ef hf)
 |agg cs c hl h1 _ ih=>exact .agg cs c hl h1 ih
 |fn f caps c hl _ ih=>exact .fn f caps c hl ih
 |tup vs c hl _ ih=>exact .tup vs c hl ih
 |dref k off len c hk h1=>exact .dref _ _ _ _ (hh k _ hk).1 h1
 |dptr k i off c hk h1=>exact .dptr _ _ _ _ (hh k _ hk).1 h1
 |ref k off len sz xs st b n cap hk hb hn hc hs=>exact .ref k off len sz xs st b n cap (hh k _ hk).1 (by rw[(hh k _ hk).2];exact hb) hn hc hs
 |ref0 k off sz xs st a hk hn=>exact .ref0 k off sz xs st a (hh k _ hk).1 hn
 |pbox k off cs b n hk hb=>exact .pbox k off cs b n (hh k _ hk).1 (by rw[(hh k _ hk).2];exact hb)
 |parr k i off sz xs st b n hk hb hi ho=>exact .parr k i off sz xs st b n (hh k _ hk).1 (by rw[(hh k _ hk).2];exact hb) hi ho
def zF2 {X Xc:Nat->Prop} {w':World} {h h':yD} {β1 β':vM} (hh:∀k e,h k=some e->h' k=some e/\β' k=β1 k) {v:AV} {c:Value} (hv:zU w' (xP Xc β1) h β1 v c):v.nosl=true->zU w' (xP X β') h' β' v c:=by
 induction hv with
 |fz v c hf=>exact λhn=> .fz _ _ (hf.free hn)
 |agg cs c hl h1 _ ih=>exact λhn=> .agg cs c hl h1 λi v hv=>ih i v hv (fE (by simpa [AV.nosl]using hn) hv)
 |fn f caps c hl _ ih=>exact λhn=> .fn f caps c hl λi v hv=>ih i v hv (fE (by simpa [AV.nosl]using hn) hv)
 |tup vs c hl _ ih=>exact λhn=> .tup vs c hl λi v hv=>ih i v hv (fE (by simpa [AV.nosl]using hn) hv)
 |dref k off len c hk h1=>exact λ_=> .dref _ _ _ _ (hh k _ hk).1 h1
 |dptr k i off c hk h1=>exact λ_=> .dptr _ _ _ _ (hh k _ hk).1 h1
 |ref k off len sz xs st b n cap hk hb hn hc hs=>exact λ_=> .ref k off len sz xs st b n cap (hh k _ hk).1 (by rw[(hh k _ hk).2];exact hb) hn hc hs
 |ref0 k off sz xs st a hk hn=>exact λ_=> .ref0 k off sz xs st a (hh k _ hk).1 hn
 |pbox k off cs b n hk hb=>exact λ_=> .pbox k off cs b n (hh k _ hk).1 (by rw[(hh k _ hk).2];exact hb)
 |parr k i off sz xs st b n hk hb hi ho=>exact λ_=> .parr k i off sz xs st b n (hh k _ hk).1 (by rw[(hh k _ hk).2];exact hb) hi ho
theorem UE.lift {w:World} {D D':Nat->Prop} {h h':yD} {β β':vM} {k:Nat} {e:xM} (hb:β' k=β k) (hv:∀cs,e= .box cs->∀(i:Nat) v c,cs[i]? =some v->zU w D h β v c->zU w D' h' β' v c)
  (hf:∀sz xs st,e= .arr sz xs st->∀(i:Nat) (x:AV) (j:Nat) v c,xs[i]? =some x->x.cells[j]? =some v->(xG w D v c->xG w D' v c)/\(st.nest=true->zU w D h β v c->zU w D' h' β' v c)) (H:UE w D h β k e):UE w D' h' β' k e:=by
 cases e with
 |dead=>exact hb.trans H
 |box cs=>
  obtain⟨b,c,el,h1,h2,h3,h4,h5⟩:=H;exact⟨b,c,el,hb.trans h1,h2,h3,h4,λi v hi=>hv cs Z i v _ hi (h5 i v hi)⟩
 |obj cs=>
  exact⟨hb.trans H.1,H.2⟩
 | arr sz xs st=>
  obtain⟨h1,h2,h3,h4,h5,f,h6,h7,h8⟩:=H
  exact⟨h1,h2,by rwa [hb],h4,by rwa [hb],f,λi x j v hx hv=>by
   obtain⟨q1,q2⟩:=hf sz xs st Z i x j v (f i j) hx hv
   cases hn:st.nest with
   |true=>exact⟨q2 hn (h6.toV i x j v hx hv),λh=>by cases h⟩
   |false=>exact⟨.fz _ _ (q1 (h6.toF hn i x j v hx hv)),λ_=>q1 (h6.toF hn i x j v hx hv)⟩,h7,by rwa [hb]⟩
theorem kN {f:Nat} {x:Operand} {args:Array Operand} {ats:Array Nat} {caps as':List AV} {h0 h1:List (Nat×xM)} {r:AV} (hc:yG P f as' h0 r h1) (hx:yK (zG st.tm) x= .fn f caps)
  (has:(args.toList.map (yK (zG st.tm))++caps).map (uU (yT h0) (zC st.h))=as') (hh0:(yT h0).map (zC st.h)=(yT h0).map (zC h0)) (hcl:h0.all (λp=>clE (yT h0) p.2)=true)
  (hnb:((kT (args.toList.map (yK (zG st.tm))++caps)).all ((yT h0).contains ·)||(r.nosl&&KA h1))=true):
  wP P st (.call ⟨.value x,args,ats⟩) r h1 (yT h0++kT (args.toList.map (yK (zG st.tm))++caps)) ((yT h1).filter λk=>!(yT h0).contains k):=by
 refine⟨?_⟩;intro X tm h hg hr hn o a w β ho HH Ht;obtain⟨dst,op',type,pos,after,guard⟩:=o;dsimp only at ho;subst ho;have hfv:=hG Ht hg (x:=x) qT hx
 obtain⟨cv,hfx,hcvl,hcv⟩:∃cv:Array Value,a.eval x= .func (.func f) #[] cv/\cv.size=caps.length/\∀(i:Nat) v,caps[i]? =some v->zU w (xP X β) h β v (cv.getD i undef):=by
  generalize a.eval x=cx at hfv
  cases hfv with
  |fz _ _ hf=>cases hf
  |fn _ _ c hl hh=>exact⟨c,rfl,hl,hh⟩
 have hrun:(execOp a.eval ⟨dst,.call ⟨.value x,args,ats⟩,type,pos,after,guard⟩).run P w= .ok (.enter f (args.map a.eval++cv)) w:=by
  have hab:=hc.able (args.map a.eval++cv) w;simp[execOp,resolve,hfx,Deferred.ofValue,invoke,hab]
 rw[hrun]
 have hK:∀k,k∈yT h0->h k=zC h0 k:=λk hk=>by
  rw[hr k (by simp[hk])];obtain⟨i,hi⟩:=yE4 hk;have:=yB8 (·[i]?) hh0;simpa [hi]using this
 have hoff0:∀k,zC h0 k=none->¬k∈yT h0:=λk hk hm=>by
  obtain⟨e,he⟩:=cM hm;rw[hk]at he;cases he
 let βc:vM:=λk=>if k∈yT h0 then β k else []
 have hβc:∀k,k∈yT h0->βc k=β k:=λk hk=>by simp[βc,hk]
 have hβn:∀k,¬k∈yT h0->βc k=[]:=λk hk=>by simp[βc,hk]
 have hβm:∀k b n,(b,n)∈βc k->k∈yT h0/\(b,n)∈β k:=λk b n hm=>by
  by_cases hk:k∈yT h0
  ·rw[hβc k hk]at hm;exact⟨hk,hm⟩
  ·rw[hβn k hk]at hm;simp at hm
 let lent:Bool:=!(kT (args.toList.map (yK (zG st.tm))++caps)).all ((yT h0).contains ·)
 let Xc:Nat->Prop:=λb=>X b∨(lent=false/\∃k n,¬k∈yT h0/\(b,n)∈β k)
 have hDc:∀b,xP Xc βc b->xP X β b:=λb hd=>by
  rcases hd with(hx|⟨_,k,n,_,hm⟩)|⟨k,n,hm⟩
  ·exact .inl hx
  ·exact .inr ⟨k,n,hm⟩
  ·exact .inr ⟨k,n,(hβm k b n hm).2⟩
 have hclosed:∀k e,zC h0 k=some e->clE (yT h0) e=true:=λk e hk=>by
  obtain⟨p,hp,he⟩:=eX hk;have:=yBr.1 hcl p hp;rw[he]at this;exact this
 have hfrz:∀{v c},zU w (xP X β) h β v c->(∀k,k∈v.refs->k∈yT h0∨∀b n,(b,n)∈β k->¬xP Xc βc b)->zU w (xP Xc βc) (zC h0) βc (uU (yT h0) h v) c:=λhv hrf=>
  zU.fz0 HH (λk hk e he=>by
   rw[hK k hk]at he
   cases e with
   |box cs=>exact⟨cs,he⟩
   |obj cs=>exact⟨cs,he⟩
   |arr sz xs fl=>exact⟨xs,fl,he,rfl⟩
   |dead=>exact he) hβc (λb _ hd h'=>hd (hDc b h')) hv hrf
 have hclv:∀{v c},zU w (xP X β) h β v c->(∀k,k∈v.refs->k∈yT h0)->zU w (xP Xc βc) (zC h0) βc v c:=by
  intro v c hv;have ef:∀{v c},xG w (xP X β) v c->xG w (xP Xc βc) v c:=λhf=>hf.evo (yBg _) λb _ hd=>⟨rfl,λh'=>hd (hDc b h')⟩
  induction hv with
  |fz v c hf=>exact λ_=> .fz _ _ (ef hf)
  |agg cs c hl h1 _ ih=>exact λhr=> .agg cs c hl h1 λi v hv=>ih i v hv λk hk=>hr k (by simpa [AV.refs]using wM hv hk)
  |fn f caps c hl _ ih=>exact λhr=> .fn f caps c hl λi v hv=>ih i v hv λk hk=>hr k (by simpa [AV.refs]using wM hv hk)
  |tup vs c hl _ ih=>exact λhr=> .tup vs c hl λi v hv=>ih i v hv λk hk=>hr k (by simpa [AV.refs]using wM hv hk)
  |dref k off len c hk h1=>exact λhr=> .dref _ _ _ _ ((hK k (hr k (by simp[AV.refs])))▸hk) h1
  |dptr k i off c hk h1=>exact λhr=> .dptr _ _ _ _ ((hK k (hr k (by simp[AV.refs])))▸hk) h1
  |ref k off len sz xs st b n cap hk hb hn hc hs=>exact λhr=> .ref k off len sz xs st b n cap ((hK k (hr k (by simp[AV.refs])))▸hk) (by rw[hβc k (hr k (by simp[AV.refs]))];exact hb) hn hc hs
  |ref0 k off sz xs st a hk hn=>exact λhr=> .ref0 k off sz xs st a ((hK k (hr k (by simp[AV.refs])))▸hk) hn
  |pbox k off cs b n hk hb=>exact λhr=> .pbox k off cs b n ((hK k (hr k (by simp[AV.refs])))▸hk) (by rw[hβc k (hr k (by simp[AV.refs]))];exact hb)
  |parr k i off sz xs st b n hk hb hi ho=>exact λhr=> .parr k i off sz xs st b n ((hK k (hr k (by simp[AV.refs])))▸hk) (by rw[hβc k (hr k (by simp[AV.refs]))];exact hb) hi ho
 have Hc:qX Xc (zC h0) βc w:=by
  refine⟨λk e he=>?_,λk he=>hβn k (hoff0 k he),λk k' b n n' q1 q2=>HH.disj _ _ _ _ _ (hβm _ _ _ q1).2 (hβm _ _ _ q2).2,λk b n hm hx=>?_,λb hd=>HH.lt b (hDc b hd)⟩
  ·have hk:=vS he
   refine(HH.ent k e ((hK k hk).trans he)).lift (hβc k hk) (λcs hcs i v c hi hv=>hclv hv λj hj=>by
    have:=hclosed k e he;rw[hcs]at this
    simpa using yBr.1 this j (wM hi hj)) λsz xs fl hxs i x j v c hi hj=>⟨λhf=>hf.evo (yBg _) λb _ hd=>⟨rfl,λh'=>hd (hDc b h')⟩,λhn hv=>hclv hv λq hq=>by
    have:=hclosed k e he;rw[hxs]at this;simp only[clE,hn,yCu]at this
    simpa using yBr.1 this q (wM hi (XP hj hq))⟩
  ·obtain⟨hk,hm⟩:=hβm k b n hm
   rcases hx with hx|⟨_,k',n',hk',hm'⟩
   ·exact HH.free k b n hm hx
   ·exact hk' (HH.disj k k' b n n' hm hm'▸hk)
 have hargs:∀(i:Nat) v,(args.toList.map (yK (zG st.tm))++caps)[i]? =some v->zU w (xP X β) h β v ((args.map a.eval++cv).getD i undef):=λi v hi=>by
  rcases zRa (ρ:=a.eval) (yK (zG st.tm)) hcvl hi with⟨y,hy,rfl,he⟩|⟨j,hj,he⟩
  ·rw[he]
   exact hG Ht hg (by
    simp only[Op.operands,Call.operands,Array.mem_append]
    exact .inr hy) Z
  ·rw[he];exact hcv j v hj
 have hrefs:∀(i:Nat) v,(args.toList.map (yK (zG st.tm))++caps)[i]? =some v->∀k,k∈v.refs->k∈yT h0∨∀b n,(b,n)∈β k->¬xP Xc βc b:=λi v hi k hk=>by
  by_cases hk0:k∈yT h0
  ·exact .inl hk0
  ·refine .inr λb n hm hd=>?_
   have hlent:lent=true:=by
    cases hl:lent with
    |true=>rfl
    |false=>
     simp only[lent,Bool.not_eq_false']at hl;have:=yBr.1 hl k (wM hi hk);exact absurd zEa hk0
   rcases hd with(hx|⟨hf,_⟩)|⟨k',n',hm'⟩
   ·exact HH.free k b n hm hx
   ·rw[hlent]at hf;cases hf
   ·obtain⟨q1,q2⟩:=hβm k' b n' hm';exact hk0 (HH.disj k k' b n n' hm q2▸q1)
 have hfreq:∀(i:Nat) v,(args.toList.map (yK (zG st.tm))++caps)[i]? =some v->uU (yT h0) (zC st.h) v=uU (yT h0) h v:=by
  have main:∀v:AV,(∀k,k∈v.refs->h k=zC st.h k)->uU (yT h0) (zC st.h) v=uU (yT h0) h v:=by
   intro v
   refine AV.rec (motive_1:=λv=>(∀k,k∈v.refs->h k=zC st.h k)->uU (yT h0) (zC st.h) v=uU (yT h0) h v)
    (motive_2:=λcs=>(∀k,k∈kT cs->h k=zC st.h k)->wL (yT h0) (zC st.h) cs=wL (yT h0) h cs) ?_ ?_ ?_ ?_ ?_ ?_ ?_ ?_ ?_ ?_ ?_ ?_ ?_ ?_ v
   ·exact λ_=>rfl
   ·exact λ_ _=>rfl
   ·exact λ_ _=>rfl
   ·exact λcs ih hk=>by simp only[uU];rw[ih (by simpa [AV.refs]using hk)]
   ·exact λ_ _ _ _=>rfl
   ·exact λ_ _ _ _=>rfl
   ·exact λk off len hk=>by simp only[uU];rw[hk k (by simp[AV.refs])]
   ·exact λ_ _ _ _=>rfl
   ·exact λ_ _ _ _ _=>rfl
   ·exact λf cs ih hk=>by simp only[uU];rw[ih (by simpa [AV.refs]using hk)]
   ·exact λcs ih hk=>by simp only[uU];rw[ih (by simpa [AV.refs]using hk)]
   ·exact λ_ _ _=>rfl
   ·exact λ_=>rfl
   ·exact λv r ihv ihr hk=>by
     simp only[wL];rw[ihv λk h=>hk k (by simp[kT,h]),ihr λk h=>hk k (by simp[kT,h])]
  exact λi v hi=>main v λk hk=>hr k (by simp[wM hi hk])
 have hsim:=hc.sim Xc w βc (args.map a.eval++cv) (by rw[<-has];simp[hcvl]) Hc (λi v hi=>by
  rw[<-has,yBh,yBs]at hi;obtain⟨u,hu,rfl⟩:=hi;rw[hfreq i u hu]
  exact hfrz (hargs i u hu) (hrefs i u hu))
 refine Calls.mono hsim ?_;rintro e w' ⟨c,β1,he,G,hv⟩;refine⟨c,he,?_⟩;have hlive:=G.lives Hc hc.nd
 let β':vM:=λk=>if(zC h1 k).isSome then β1 k else β k
 have hb1:∀k e,zC h1 k=some e->β' k=β1 k:=λk e hk=>by simp[β',hk]
 have hb2:∀k,zC h1 k=none->β' k=β k:=λk hk=>by simp[β',hk]
 have hin:∀k,k∈yT h0->∃e,zC h1 k=some e:=λk hk=>by
  obtain⟨e,he⟩:=cM hk
  rcases G.key k e he with h2|h2
  ·exact⟨_,h2⟩
  ·cases e with
   |dead=>exact h2.elim
   |box cs=>exact⟨_,h2.1.choose_spec⟩
   |obj cs=>exact⟨_,h2.1.choose_spec⟩
   |arr sz xs st=>obtain⟨xs',st',h3,_⟩:=h2.1;exact⟨_,h3⟩
 have hnew:∀k e,zC h1 k=some e->¬k∈yT h0->h k=none:=λk e hk hk0=>hn k (by
  simp only[yEd,yDj,List.contains_eq_mem,yBx]
  exact⟨vS hk,hk0⟩)
 have ov1:∀k e,zC h1 k=some e->over h1 h k=some e:=λk e hk=>by simp[over,hk]
 have ov2:∀k,zC h1 k=none->over h1 h k=h k:=λk hk=>by simp[over,hk]
 have hβ':∀k b n,(b,n)∈β' k->((∃e,zC h1 k=some e)/\(b,n)∈β1 k)∨(zC h1 k=none/\¬k∈yT h0/\(b,n)∈β k):=λk b n hm=>by
  cases hk:zC h1 k with
  |none=>rw[hb2 k hk]at hm;exact .inr ⟨rfl,(λh2=>by obtain⟨e,he⟩:=hin k h2;rw[hk]at he;cases he),hm⟩
  |some e=>rw[hb1 k e hk]at hm;exact .inl ⟨⟨e,rfl⟩,hm⟩
 have own1:∀k b n,(b,n)∈β1 k->(∃k' n',k'∈yT h0/\(b,n')∈β k')∨w.heap.size<=b:=λk b n hm=>by
  rcases G.own k b n hm with⟨k',n',h2⟩|h2
  ·obtain⟨q1,q2⟩:=hβm k' b n' h2;exact .inl ⟨k',n',q1,q2⟩
  ·exact .inr h2
 have keepK:∀b,b<w.heap.size->(∀k n,k∈yT h0->(b,n)∉β k)->w'.heap[b]? =w.heap[b]? :=λb hb hk=>G.keep b hb λk n hm=>by
  obtain⟨q1,q2⟩:=hβm k b n hm;exact hk k n q1 q2
 have keepO:∀k b n,¬k∈yT h0->(b,n)∈β k->w'.heap[b]? =w.heap[b]? :=λk b n hk hm=>keepK b (HH.lt b (.inr ⟨k,n,hm⟩)) λk' n' hk' hm'=>hk (HH.disj k k' b n n' hm hm'▸hk')
 have bs':∀k b n,(b,n)∈β k->wB w' b=wB w b:=λk b n hm=>by
  by_cases hk:k∈yT h0
  ·exact G.bs k b n (by rw[hβc k hk];exact hm)
  ·unfold wB World.shape?;rw[keepO k b n hk hm]
 have key':∀k e,h k=some e->over h1 h k=some .dead∨match e with
   | .dead=>False
   | .box _=>(∃cs',over h1 h k=some (.box cs'))/\∀b n,(b,n)∈β k->(b,n)∈β' k
   | .obj _=>(∃cs',over h1 h k=some (.obj cs'))/\∀b n,(b,n)∈β k->(b,n)∈β' k
   | .arr sz xs _=>(∃xs' st',over h1 h k=some (.arr sz xs' st')/\xs.length<=xs'.length)/\∀b n,(b,n)∈β k->∃n',n<=n'/\(b,n')∈β' k:=λk e he=>by
  by_cases hk:k∈yT h0
  ·have he0:=(hK k hk)▸he;have:=G.key k e he0;obtain⟨e1,he1⟩:=hin k hk;rw[he1]at this;rw[ov1 k e1 he1,hb1 k e1 he1,<-hβc k hk];exact this
  ·have hno:zC h1 k=none:=by
    cases h2:zC h1 k with
    |none=>rfl
    |some e1=>rw[hnew k e1 h2 hk]at he;cases he
   rw[ov2 k hno,hb2 k hno];exact qV h β k e he
 have own':∀k b n,(b,n)∈β' k->(∃k' n',(b,n')∈β k')∨w.heap.size<=b:=λk b n hm=>by
  rcases hβ' k b n hm with⟨_,h2⟩|⟨_,_,h2⟩
  ·rcases own1 k b n h2 with⟨k',n',_,h3⟩|h3
   ·exact .inl ⟨k',n',h3⟩
   ·exact .inr h3
  ·exact .inl ⟨k,n,h2⟩
 have keep':∀b,b<w.heap.size->(∀k n,(b,n)∉β k)->w'.heap[b]? =w.heap[b]? :=λb hb hk=>keepK b hb λk n _=>hk k n
 have E:FL w (xP X β) h β w' (xP X β') (over h1 h) β':=by
  refine⟨G.size,λb hb hd=>?_,bs',key'⟩;have q1:∀k n,(b,n)∉β k:=λk n hm=>hd (.inr ⟨k,n,hm⟩)
  refine⟨keep' b hb q1,?_⟩;rintro(hx|⟨k,n,hm⟩)
  ·exact hd (.inl hx)
  ·rcases own' k b n hm with⟨k',n',h2⟩|h2
   ·exact q1 _ _ h2
   ·omega
 have hup:∀k e,zC h1 k=some e->over h1 h k=some e/\β' k=β1 k:=λk e hk=>⟨ov1 k e hk,hb1 k e hk⟩
 have hDl:lent=false->∀b,xP X β' b->xP Xc β1 b:=λhl b hd=>by
  rcases hd with hx|⟨k,n,hm⟩
  ·exact .inl (.inl hx)
  ·rcases hβ' k b n hm with⟨_,h2⟩|⟨_,h2,h3⟩
   ·exact .inr ⟨k,n,h2⟩
   ·exact .inl (.inr ⟨hl,k,n,h2,h3⟩)
 have hcase:lent=false∨(r.nosl=true/\KA h1=true):=by
  rw[yDo]at hnb
  rcases hnb with h2|h2
  ·left;show(!(_:Bool))=false;rw[h2];rfl
  ·right;simpa using h2
 have hliftV:∀{v c},(lent=false∨v.nosl=true)->zU w' (xP Xc β1) (zC h1) β1 v c->zU w' (xP X β') (over h1 h) β' v c:=λhl hv=>by
  rcases hl with hl|hl
  ·exact zMa (h':=over h1 h) hup (λb hd _=> .inl (hDl hl b hd)) hv
  ·exact zF2 hup hv hl
 have hliftF:∀{v c},(lent=false∨v.nosl=true)->xG w' (xP Xc β1) v c->xG w' (xP X β') v c:=λhl hv=>by
  rcases hl with hl|hl
  ·exact hv.evo (yBg _) λb _ hd=>⟨rfl,λh'=>hd (hDl hl b h')⟩
  ·exact hv.free hl
 have HK:qX X (over h1 h) β' w':=by
  refine⟨λk e he=>?_,λk he=>?_,λk k' b n n' q1 q2=>?_,λk b n hm hx=>?_,λb hd=>?_⟩
  ·cases hk:zC h1 k with
   |none=>
    rw[ov2 k hk]at he;have hk0:¬k∈yT h0:=λh2=>by obtain⟨e1,he1⟩:=hin k h2;rw[hk]at he1;cases he1
    exact(HH.ent k e he).evo E (hb2 k hk) λb n hm=>keepO k b n hk0 hm
   | some e1=>
    rw[ov1 k e1 hk]at he;obtain rfl:=yDy he;have hns:lent=false∨e1.nosl=true:=hcase.imp id λh2=>BB h2.2 hk
    refine(G.hok.ent k e1 hk).lift (hb1 k e1 hk) (λcs hcs i v c hi hv=>hliftV (hns.imp id λh2=>fE (by rw[hcs]at h2;exact h2) hi) hv) λsz xs st hxs i x j v c hi hj=>by
     have hns':lent=false∨v.nosl=true:=hns.imp id λh2=>by
      have hxn:x.nosl=true:=fE (by rw[hxs]at h2;exact h2) hi
      cases x<;>first
       |(simp[AV.cells]at hj;cases j<;>simp at hj;subst hj;exact hxn)
       |(exact fE (by simpa [AV.nosl,AV.cells]using hxn) hj)
     exact⟨λhf=>hliftF hns' hf,λ_ hv=>hliftV hns' hv⟩
  ·cases hk:zC h1 k with
   |none=>rw[ov2 k hk]at he;rw[hb2 k hk];exact HH.off k he
   |some e1=>rw[ov1 k e1 hk]at he;cases he
  ·rcases hβ' k b n q1 with⟨_,h2⟩|⟨_,h2,h3⟩<;>rcases hβ' k' b n' q2 with⟨_,h4⟩|⟨_,h4,h5⟩
   ·exact G.hok.disj _ _ _ _ _ h2 h4
   ·rcases own1 k b n h2 with⟨j,m,hj,hm⟩|h6
    ·exact absurd (HH.disj j k' b m n' hm h5▸hj) h4
    ·have:=HH.lt b (.inr ⟨k',n',h5⟩);omega
   ·rcases own1 k' b n' h4 with⟨j,m,hj,hm⟩|h6
    ·exact absurd (HH.disj j k b m n hm h3▸hj) h2
    ·have:=HH.lt b (.inr ⟨k,n,h3⟩);omega
   ·exact HH.disj _ _ _ _ _ h3 h5
  ·rcases hβ' k b n hm with⟨_,h2⟩|⟨_,_,h3⟩
   ·exact G.hok.free k b n h2 (.inl hx)
   ·exact HH.free k b n h3 hx
  ·rcases hd with hx|⟨k,n,hm⟩
   ·exact yCo (HH.lt b (.inl hx)) G.size
   ·rcases hβ' k b n hm with⟨_,h2⟩|⟨_,_,h3⟩
    ·exact G.hok.lt b (.inr ⟨k,n,h2⟩)
    ·exact yCo (HH.lt b (.inr ⟨k,n,h3⟩)) G.size
 exact⟨β',⟨G.size,keep',own',bs',key',HK,G.os,G.tape,G.output⟩,hliftV (hcase.imp id (·.1)) hv⟩
def zL {f:Nat} {x:Operand} {args:Array Operand} {ats:Array Nat} {caps as':List AV} {h0 h1:List (Nat×xM)} {r:AV} (hc:yG P f as' h0 r h1) (hx:yK (zG st.tm) x= .fn f caps)
  (has:(args.toList.map (yK (zG st.tm))++caps).map (yAw (yT h0) (zC st.h))=as') (hh0:(yT h0).map (zC st.h)=(yT h0).map (zC h0)) (hcl:h0.all (λp=>clE (yT h0) p.2)=true)
  (hnb:((kT (args.toList.map (yK (zG st.tm))++caps)).all ((yT h0).contains ·)||(r.nosl&&KA h1))=true):
  wP P st (.call ⟨.value x,args,ats⟩) r h1 (yT h0++kT (args.toList.map (yK (zG st.tm))++caps)) ((yT h1).filter λk=>!(yT h0).contains k):=
 kN (hc:=⟨hc.able,hc.nd,λX w β cargs hl H ha=>hc.sim X w β cargs (by rw[hl,<-has];simp) H λi v hi=>by
  rw[<-has,yBh,yBs]at hi;obtain⟨u,hu,rfl⟩:=hi
  exact(ha i _ (by rw[yBh,hu];rfl)).wk⟩) hx Z hh0 hcl hnb
end
end Av
end Go.Proofs.YteajjdidebfcjaaGreat
