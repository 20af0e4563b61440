/- Part 5. -/
import Derived.Test.YteajjdidebfcjaaGreatR04
namespace Go.Proofs.YteajjdidebfcjaaGreat
namespace Av
set_option linter.all false
mutual
def AV.refs:AV->List Nat
 | .ref k _ _| .ptr k _ _=>[k]
 | .agg cs| .fn _ cs| .tup cs=>kM cs
 |_=>[]
def kM:List AV->List Nat
 | []=>[]
 |v::r=>v.refs++kM r
end
mutual
def AV.nosl:AV->Bool
 | .sl _ _| .slc _ _| .fp _ _ _| .fm _ _=>false
 | .agg cs| .fn _ cs| .tup cs=>PR cs
 |_=>true
def PR:List AV->Bool
 | []=>true
 |v::r=>v.nosl&&PR r
end
mutual
def uT (K:List Nat) (h:yC):AV->AV
 | .ref k off len=>bif K.contains k then .ref k off len else match h k with
  |some (.arr _ xs fl)=>bif fl.nest then .bot else .sl false ((xs.drop off).take len)
  |_=> .bot
 | .ptr k i off=>bif K.contains k then .ptr k i off else .bot
 | .agg cs=> .agg (wH K h cs)
 | .fn f cs=> .fn f (wH K h cs)
 | .tup cs=> .tup (wH K h cs)
 |v=>v
def wH (K:List Nat) (h:yC):List AV->List AV
 | []=>[]
 |v::r=>uT K h v::wH K h r
end
mutual
def wD (K:List Nat) (h:yC):AV->AV
 | .ref k off len=>bif K.contains k then .ref k off len else match h k with
  |some (.arr _ xs fl)=>bif fl.nest then(bif xY (wH K h xs)then .sl false (((wH K h xs).drop off).take len)else .bot)else .sl false ((xs.drop off).take len)
  |_=> .bot
 | .ptr k i off=>bif K.contains k then .ptr k i off else .bot
 | .agg cs=> .agg (uO K h cs)
 | .fn f cs=> .fn f (uO K h cs)
 | .tup cs=> .tup (uO K h cs)
 |v=>v
def uO (K:List Nat) (h:yC):List AV->List AV
 | []=>[]
 |v::r=>wD K h v::uO K h r
end
mutual
def XC:AV->AV
 | .s v=>match v with
  | .slice none 0 0=> .sl false []
  |v=> .s v
 | .sl _ xs=> .sl false xs
 | .agg cs=> .agg (wkL cs)
 | .fn f cs=> .fn f (wkL cs)
 | .tup cs=> .tup (wkL cs)
 |v=>v
def wkL:List AV->List AV
 | []=>[]
 |v::r=>XC v::wkL r
end
theorem wI:∀{cs:List AV} {i:Nat} {v:AV} {k:Nat},cs[i]? =some v->k∈v.refs->k∈kM cs
 | [],_,_,_,h,_=>by simp at h
 |x::r,0,v,k,h,hk=>by simp at h;subst h;simp[kM,hk]
 |x::r,i+1,v,k,h,hk=>by simp[kM,wI (show r[i]? =some v by simpa using h) hk]
theorem gN:∀{cs:List AV} {i:Nat} {v:AV},PR cs=true->cs[i]? =some v->v.nosl=true
 | [],_,_,_,h=>by simp at h
 |x::r,0,v,hk,h=>by simp at h;subst h;simp[PR]at hk;exact hk.1
 |x::r,i+1,v,hk,h=>by simp[PR]at hk;exact gN hk.2 IY
theorem cN (K:List Nat) (h:yC):∀(cs:List AV) (i:Nat),(uO K h cs)[i]? =(cs[i]?).map (wD K h)
 | [],i=>by simp[uO]
 |x::r,0=>by simp[uO]
 |x::r,i+1=>by simp[uO,cN K h r i]
theorem dR (K:List Nat) (h:yC):∀(cs:List AV) (i:Nat),(wH K h cs)[i]? =(cs[i]?).map (uT K h)
 | [],i=>by simp[wH]
 |x::r,0=>by simp[wH]
 |x::r,i+1=>by simp[wH,dR K h r i]
theorem qF (K:List Nat) (h:yC):∀(cs:List AV),(wH K h cs).length=cs.length
 | []=>rfl
 |x::r=>by simp[wH,qF K h r]
def aG {v:AV} (h:v.isAgg=false):v.cells=[v]:=by cases v<;>first|rfl|(simp[AV.isAgg]at h)
def PS (K:List Nat) (h:yC) (x:AV):(uT K h x).cells=wH K h x.cells:=by
 cases x with
 |agg cs=>rfl
 | ref k off len=>
  refine aG ?_;unfold uT
  cases K.contains k with
  |true=>rfl
  | false=>
   simp only[yB5]
   rcases h k with _|(_|⟨_,_,fl⟩|_|_)
   ·rfl
   ·rfl
   ·dsimp only
    cases fl.nest<;>rfl
   ·rfl
   ·rfl
 |ptr k i off=>refine aG ?_;unfold uT;cases K.contains k<;>rfl
 |_=>rfl
def PU (K:List Nat) (h:yC) (x:AV):(wD K h x).cells=uO K h x.cells:=by
 cases x with
 |agg cs=>rfl
 | ref k off len=>
  refine aG ?_;unfold wD
  cases K.contains k with
  |true=>rfl
  | false=>
   simp only[yB5]
   rcases h k with _|(_|⟨_,xs,fl⟩|_|_)
   ·rfl
   ·rfl
   ·dsimp only
    cases fl.nest with
    |false=>rfl
    |true=>
     simp only[yBn]
     cases xY (wH K h xs)<;>rfl
   ·rfl
   ·rfl
 |ptr k i off=>refine aG ?_;unfold wD;cases K.contains k<;>rfl
 |_=>rfl
def TQ {x:AV} (h:x.nokey=true):xY x.cells=true:=by
 by_cases ha:x.isAgg=true
 ·cases x<;>first
   |exact h
   |(simp[AV.isAgg]at ha)
 ·rw[aG (by simpa using ha)];simp[xY,h]
theorem vM (K:List Nat) (h:yC):∀(cs:List AV),(uO K h cs).length=cs.length
 | []=>rfl
 |x::r=>by simp[uO,vM K h r]
theorem zAw:∀(cs:List AV) (i:Nat),(wkL cs)[i]? =(cs[i]?).map XC
 | [],i=>by simp[wkL]
 |x::r,0=>by simp[wkL]
 |x::r,i+1=>by simp[wkL,zAw r i]
theorem fV:∀(cs:List AV),(wkL cs).length=cs.length
 | []=>rfl
 |x::r=>by simp[wkL,fV r]
theorem zDi:∀cs:List AV,wkL cs=cs.map XC
 | []=>rfl
 |x::r=>by simp[wkL,zDi r]
theorem xH.wk {w:World} {D:Nat->Prop}:∀{v:AV} {c:Value},xH w D v c->xH w D (XC v) c:=by
 intro v c hv
 induction hv with
 |bot c=>exact .bot c
 |gh n c=>exact .gh n c
 |s v=>
  unfold XC;split
  ·exact .nil _ _
  ·exact .s _
 | agg cs c hl h1 _ ih=>
  exact .agg _ c (by rw[fV];exact hl) h1 λi v hv=>by
   rw[zAw,yAo]at hv;obtain⟨u,hu,rfl⟩:=hv;exact ih i u hu
 |nil a cap=>exact .nil _ _
 |nil1 a cap=>exact .nil _ _
 |sl nn xs b o sz cap f hx hL hc hh _=>exact .sl false xs b o sz cap f hx hL hc hh
 |slc cap xs b o sz f hL hc hh _=>exact .slc cap xs b o sz f hL hc hh
 |fp xs b o sz i off f hL hi ho hh _=>exact .fp xs b o sz i off f hL hi ho hh
 |fm ob p b x ho hl hd hx hp=>exact .fm ob p b x ho hl hd hx hp
theorem zQ.wk {w:World} {D:Nat->Prop} {h:yC} {β:vP}:∀{v:AV} {c:Value},zQ w D h β v c->zQ w D h β (XC v) c:=by
 intro v c hv
 have key:∀{cs:List AV} {c:Array Value} (ih:∀(i:Nat) v,cs[i]? =some v->zQ w D h β (XC v) (c.getD i undef)) (i:Nat) v,(wkL cs)[i]? =some v->zQ w D h β v (c.getD i undef):=λih i v hv=>by
  rw[zAw,yAo]at hv;obtain⟨u,hu,rfl⟩:=hv;exact ih i u hu
 induction hv with
 |fz v c hf=>exact .fz _ _ hf.wk
 |agg cs c hl h1 _ ih=>exact .agg _ c (by rw[fV];exact hl) h1 (key ih)
 |fn f caps c hl _ ih=>exact .fn f _ c (by rw[fV];exact hl) (key ih)
 |tup vs c hl _ ih=>exact .tup _ c (by rw[fV];exact hl) (key ih)
 |dref k off len c hk h1=>exact .dref _ _ _ _ hk h1
 |dptr k i off c hk h1=>exact .dptr _ _ _ _ hk h1
 |ref k off len sz xs st b n cap hk hb hn hc hs=>exact .ref k off len sz xs st b n cap hk hb hn hc hs
 |ref0 k off sz xs st a hk hn=>exact .ref0 k off sz xs st a hk hn
 |pbox k off cs b n hk hb=>exact .pbox k off cs b n hk hb
 |parr k i off sz xs st b n hk hb hi ho=>exact .parr k i off sz xs st b n hk hb hi ho
theorem xH.free {w:World} {D D':Nat->Prop}:∀{v:AV} {c:Value},xH w D v c->v.nosl=true->xH w D' v c:=by
 intro v c hv
 induction hv with
 |bot c=>exact λ_=> .bot c
 |gh n c=>exact λ_=> .gh n c
 |s v=>exact λ_=> .s v
 |agg cs c hl h1 _ ih=>exact λhn=> .agg cs c hl h1 λi v hv=>ih i v hv (gN (by simpa [AV.nosl]using hn) hv)
 |_=>intro hn;simp[AV.nosl]at hn
theorem zQ.fz0 {w:World} {X:Nat->Prop} {h:yC} {β:vP} (H:qV X h β w) {K:List Nat} {h':yC} {β':vP} {D':Nat->Prop}
  (hk:∀k,k∈K->∀e,h k=some e->match e with| .box _=>∃cs',h' k=some (.box cs')| .obj _=>∃cs',h' k=some (.obj cs')| .arr sz xs _=>∃xs' st',h' k=some (.arr sz xs' st')/\xs.length=xs'.length| .dead=>h' k=some .dead) (hβ:∀k,k∈K->β' k=β k) (hD:∀b,b<w.heap.size->¬xK X β b->¬D' b)
  {v:AV} {c:Value} (hv:zQ w (xK X β) h β v c):(∀k,k∈v.refs->k∈K∨∀b n,(b,n)∈β k->¬D' b)->zQ w D' h' β' (uT K h v) c:=by
 have key:∀{cs:List AV} {c:Array Value} (ih:∀(i:Nat) v,cs[i]? =some v->(∀k,k∈v.refs->k∈K∨∀b n,(b,n)∈β k->¬D' b)->zQ w D' h' β' (uT K h v) (c.getD i undef)) (hr:∀k,k∈kM cs->k∈K∨∀b n,(b,n)∈β k->¬D' b)
   (i:Nat) v,(wH K h cs)[i]? =some v->zQ w D' h' β' v (c.getD i undef):=λih hr i v hv=>by
  rw[dR,yAo]at hv;obtain⟨u,hu,rfl⟩:=hv;exact ih i u hu λk hk=>hr k (wI hu hk)
 have efz:∀{v c},xH w (xK X β) v c->xH w D' v c:=λhf=>hf.evo (yAb _) λb hb hd=>⟨rfl,hD b hb hd⟩
 have cont:∀{k},K.contains k=true↔k∈K:=λ{k}=>by simp
 induction hv with
 | fz v c hf=>
  intro _
  have:xH w D' (uT K h v) c:=by
   have h2:∀{v c},xH w (xK X β) v c->xH w D' (uT K h v) c:=by
    intro v c hf
    induction hf with
    |bot c=>exact .bot c
    |gh n c=>exact .gh n c
    |s v=>exact .s v
    | agg cs c hl h1 _ ih=>
     exact .agg _ c (by rw[qF];exact hl) h1 λi v hv=>by
      rw[dR,yAo]at hv;obtain⟨u,hu,rfl⟩:=hv;exact ih i u hu
    |nil a cap=>exact .nil _ _
    |nil1 a cap=>exact .nil1 _ _
    |sl nn xs b o sz cap f hx hL hc hh _=>exact efz (.sl nn xs b o sz cap f hx hL hc hh)
    |slc cap xs b o sz f hL hc hh _=>exact efz (.slc cap xs b o sz f hL hc hh)
    |fp xs b o sz i off f hL hi ho hh _=>exact efz (.fp xs b o sz i off f hL hi ho hh)
    |fm ob p b x ho hl hd hx hp=>exact efz (.fm ob p b x ho hl hd hx hp)
   exact h2 hf
  exact .fz _ _ this
 |agg cs c hl h1 _ ih=>exact λhr=> .agg _ c (by rw[qF];exact hl) h1 (key ih hr)
 |fn f caps c hl _ ih=>exact λhr=> .fn f _ c (by rw[qF];exact hl) (key ih hr)
 |tup vs c hl _ ih=>exact λhr=> .tup _ c (by rw[qF];exact hl) (key ih hr)
 |dref k off len c hk' h1=>
  intro hr;unfold uT
  cases hc:K.contains k with
  |true=>exact .dref _ _ _ _ (hk k (cont.1 hc) _ hk') h1
  |false=>simp only[hk',yB5];exact .fz _ _ (.bot _)
 |dptr k i off c hk' h1=>
  intro hr;unfold uT
  cases hc:K.contains k with
  |true=>exact .dptr _ _ _ _ (hk k (cont.1 hc) _ hk') h1
  |false=>exact .fz _ _ (.bot _)
 | ref k off len sz xs st b n cap hk' hb hn hc' hs=>
  intro hr;unfold uT
  cases hc:K.contains k with
  |true=>obtain⟨xs',st',hk2,_⟩:=hk k (cont.1 hc) _ hk';exact .ref k off len sz xs' st' b n cap hk2 (by rw[hβ k (cont.1 hc)];exact hb) hn hc' hs
  | false=>
   simp only[hk',yB5]
   cases hnest:st.nest with
   |true=>exact .fz _ _ (.bot _)
   |false=>
   simp only[yB5];have hnK:¬k∈K:=λh=>by rw[cont.2 h]at hc;cases hc
   have hfree:=(hr k (by simp[AV.refs])).resolve_left hnK;obtain⟨g1,g2,g3,g4,g5,f,g6,g7,g8⟩:=H.ent k _ hk'
   have hnx:n<=xs.length:=by
    cases hbk:β k with
    |nil=>rw[hbk]at hb;simp at hb
    |cons q rr=>
     obtain⟨b0,n0⟩:=q;obtain⟨e1,_,e3⟩:=g5 b0 n0 rr hbk;rw[hbk]at hb;simp at hb
     rcases hb with⟨_,rfl⟩|hb
     ·omega
     ·exact yFb (e3 b n hb)
   have hl:((xs.drop off).take len).length=len:=by simp;omega
   by_cases hz:len=0
   ·subst hz;simp only[yC8];exact .fz _ _ (.nil _ _)
   ·have hat:∀(i:Nat) y,((xs.drop off).take len)[i]? =some y->xs[off+i]? =some y:=λi y hy=>by
     rw[yBz]at hy;split at hy
     ·rwa [yCf]at hy
     ·cases hy
    obtain⟨cc,el,e1,e2,e3,_⟩:=g8 b n hb
    have:=xH.sl (w:=w) (D:=D') false ((xs.drop off).take len) b (off*sz) sz cap (λi j=>f (off+i) j) (λh0=>hz (by rw[<-hl,h0];rfl))
     ⟨H.lt b (.inr ⟨k,n,hb⟩),hfree b n hb,g1,by rw[hl];omega,λi y hy=>g4 _ y (hat i y hy),λi j hi hj=>by
      rw[hl]at hi;rw[uP e1,show off*sz+i*sz+j=(off+i)*sz+j by rw[yBk]]
      exact e3 _ _ (by omega) hj,λi j hi hj=>g7 _ _ zDn hj⟩ (by rw[hl];exact hc') (λi y j v hy hv=>efz (g6.toF hnest _ y j v (hat i y hy) hv))
    rw[hl]at this;exact .fz _ _ this
 | ref0 k off sz xs st a hk' hn=>
  intro hr;unfold uT
  cases hc:K.contains k with
  |true=>obtain⟨xs',st',hk2,hl2⟩:=hk k (cont.1 hc) _ hk';exact .ref0 k off sz xs' st' a hk2 (hl2▸hn)
  |false=>
   simp only[hk',yB5,yC8]
   cases st.nest with
   |true=>exact .fz _ _ (.bot _)
   |false=>exact .fz _ _ (.nil _ _)
 | pbox k off cs b n hk' hb=>
  intro hr;unfold uT
  cases hc:K.contains k with
  |true=>
   obtain⟨cs',h2⟩:=hk k (cont.1 hc) _ hk';exact .pbox k off cs' b n h2 (by rw[hβ k (cont.1 hc)];exact hb)
  |false=>exact .fz _ _ (.bot _)
 |parr k i off sz xs st b n hk' hb hi ho=>
  intro hr;unfold uT
  cases hc:K.contains k with
  |true=>obtain⟨xs',st',hk2,_⟩:=hk k (cont.1 hc) _ hk';exact .parr k i off sz xs' st' b n hk2 (by rw[hβ k (cont.1 hc)];exact hb) hi ho
  |false=>exact .fz _ _ (.bot _)
theorem zQ.frz {w:World} {X:Nat->Prop} {h:yC} {β:vP} (H:qV X h β w) {K:List Nat} {h':yC} {β':vP} {D':Nat->Prop}
  (hk:∀k,k∈K->∀e,h k=some e->match e with| .box _=>∃cs',h' k=some (.box cs')| .obj _=>∃cs',h' k=some (.obj cs')| .arr sz xs _=>∃xs' st',h' k=some (.arr sz xs' st')/\xs.length=xs'.length| .dead=>h' k=some .dead) (hβ:∀k,k∈K->β' k=β k) (hD:∀b,b<w.heap.size->¬xK X β b->¬D' b) (hfr:∀k,¬k∈K->∀b n,(b,n)∈β k->¬D' b)
  {v:AV} {c:Value} (hv:zQ w (xK X β) h β v c):zQ w D' h' β' (wD K h v) c:=by
 have key:∀{cs:List AV} {c:Array Value} (ih:∀(i:Nat) v,cs[i]? =some v->zQ w D' h' β' (wD K h v) (c.getD i undef))
   (i:Nat) v,(uO K h cs)[i]? =some v->zQ w D' h' β' v (c.getD i undef):=λih i v hv=>by
  rw[cN,yAo]at hv;obtain⟨u,hu,rfl⟩:=hv;exact ih i u hu
 have efz:∀{v c},xH w (xK X β) v c->xH w D' v c:=λhf=>hf.evo (yAb _) λb hb hd=>⟨rfl,hD b hb hd⟩
 have cont:∀{k},K.contains k=true↔k∈K:=λ{k}=>by simp
 induction hv with
 | fz v c hf=>
  have:xH w D' (wD K h v) c:=by
   have h2:∀{v c},xH w (xK X β) v c->xH w D' (wD K h v) c:=by
    intro v c hf
    induction hf with
    |bot c=>exact .bot c
    |gh n c=>exact .gh n c
    |s v=>exact .s v
    | agg cs c hl h1 _ ih=>
     exact .agg _ c (by rw[vM];exact hl) h1 λi v hv=>by
      rw[cN,yAo]at hv;obtain⟨u,hu,rfl⟩:=hv;exact ih i u hu
    |nil a cap=>exact .nil _ _
    |nil1 a cap=>exact .nil1 _ _
    |sl nn xs b o sz cap f hx hL hc hh _=>exact efz (.sl nn xs b o sz cap f hx hL hc hh)
    |slc cap xs b o sz f hL hc hh _=>exact efz (.slc cap xs b o sz f hL hc hh)
    |fp xs b o sz i off f hL hi ho hh _=>exact efz (.fp xs b o sz i off f hL hi ho hh)
    |fm ob p b x ho hl hd hx hp=>exact efz (.fm ob p b x ho hl hd hx hp)
   exact h2 hf
  exact .fz _ _ this
 |agg cs c hl h1 _ ih=>exact .agg _ c (by rw[vM];exact hl) h1 (key ih)
 |fn f caps c hl _ ih=>exact .fn f _ c (by rw[vM];exact hl) (key ih)
 |tup vs c hl _ ih=>exact .tup _ c (by rw[vM];exact hl) (key ih)
 |dref k off len c hk' h1=>
  unfold wD
  cases hc:K.contains k with
  |true=>exact .dref _ _ _ _ (hk k (cont.1 hc) _ hk') h1
  |false=>simp only[hk',yB5];exact .fz _ _ (.bot _)
 |dptr k i off c hk' h1=>
  unfold wD
  cases hc:K.contains k with
  |true=>exact .dptr _ _ _ _ (hk k (cont.1 hc) _ hk') h1
  |false=>exact .fz _ _ (.bot _)
 | ref k off len sz xs st b n cap hk' hb hn hc' hs=>
  unfold wD
  cases hc:K.contains k with
  |true=>obtain⟨xs',st',hk2,_⟩:=hk k (cont.1 hc) _ hk';exact .ref k off len sz xs' st' b n cap hk2 (by rw[hβ k (cont.1 hc)];exact hb) hn hc' hs
  | false=>
   simp only[hk',yB5];have hnK:¬k∈K:=λh=>by rw[cont.2 h]at hc;cases hc
   have hfree:=hfr k hnK;obtain⟨g1,g2,g3,g4,g5,f,g6,g7,g8⟩:=H.ent k _ hk'
   have hnx:n<=xs.length:=by
    cases hbk:β k with
    |nil=>rw[hbk]at hb;simp at hb
    |cons q rr=>
     obtain⟨b0,n0⟩:=q;obtain⟨e1,_,e3⟩:=g5 b0 n0 rr hbk;rw[hbk]at hb;simp at hb
     rcases hb with⟨_,rfl⟩|hb
     ·omega
     ·exact yFb (e3 b n hb)
   cases hnest:st.nest with
   | true=>
    simp only[yBn]
    cases hnk:xY (wH K h xs)with
    |false=>exact .fz _ _ (.bot _)
    |true=>
    simp only[yBn];have hl0:(wH K h xs).length=xs.length:=qF K h xs;have hl:(((wH K h xs).drop off).take len).length=len:=by simp[hl0];omega
    by_cases hz:len=0
    ·subst hz;simp only[yC8];exact .fz _ _ (.nil _ _)
    have hat:∀(i:Nat) y,(((wH K h xs).drop off).take len)[i]? =some y->∃x,xs[off+i]? =some x/\y=uT K h x:=λi y hy=>by
     rw[yBz]at hy;split at hy
     ·rw[yCf,dR,yAo]at hy;obtain⟨x,hx,rfl⟩:=hy;exact⟨x,hx,rfl⟩
     ·cases hy
    obtain⟨cc,el,e1,e2,e3,_⟩:=g8 b n hb
    have:=xH.sl (w:=w) (D:=D') false (((wH K h xs).drop off).take len) b (off*sz) sz cap (λi j=>f (off+i) j) (λh0=>hz (by rw[<-hl,h0];rfl))
     ⟨H.lt b (.inr ⟨k,n,hb⟩),hfree b n hb,g1,by rw[hl];omega,λi y hy=>by
      obtain⟨x,hx,rfl⟩:=hat i y hy;rw[PS,qF]
      exact g4 _ x hx,λi j hi hj=>by
      rw[hl]at hi;rw[uP e1,show off*sz+i*sz+j=(off+i)*sz+j by rw[yBk]]
      exact e3 _ _ (by omega) hj,λi j hi hj=>g7 _ _ zDn hj⟩ (by rw[hl];exact hc') (λi y j v hy hv=>by
      obtain⟨x,hx,rfl⟩:=hat i y hy;have hyk:(uT K h x).nokey=true:=kE hnk (show(wH K h xs)[off+i]? =some (uT K h x) by rw[dR,hx];rfl);have hvk:v.nokey=true:=kE (TQ hyk) hv;rw[PS,dR,yAo]at hv;obtain⟨u,hu,rfl⟩:=hv
      exact(zQ.fz0 H hk hβ hD (g6.toV _ x j u hx hu) λk' _=>by
       by_cases hk2:k'∈K
       ·exact .inl hk2
       ·exact .inr (hfr k' hk2)).toF hvk)
    rw[hl]at this;exact .fz _ _ this
   |false=>
   simp only[yB5];have hl:((xs.drop off).take len).length=len:=by simp;omega
   by_cases hz:len=0
   ·subst hz;simp only[yC8];exact .fz _ _ (.nil _ _)
   ·have hat:∀(i:Nat) y,((xs.drop off).take len)[i]? =some y->xs[off+i]? =some y:=λi y hy=>by
     rw[yBz]at hy;split at hy
     ·rwa [yCf]at hy
     ·cases hy
    obtain⟨cc,el,e1,e2,e3,_⟩:=g8 b n hb
    have:=xH.sl (w:=w) (D:=D') false ((xs.drop off).take len) b (off*sz) sz cap (λi j=>f (off+i) j) (λh0=>hz (by rw[<-hl,h0];rfl))
     ⟨H.lt b (.inr ⟨k,n,hb⟩),hfree b n hb,g1,by rw[hl];omega,λi y hy=>g4 _ y (hat i y hy),λi j hi hj=>by
      rw[hl]at hi;rw[uP e1,show off*sz+i*sz+j=(off+i)*sz+j by rw[yBk]]
      exact e3 _ _ (by omega) hj,λi j hi hj=>g7 _ _ zDn hj⟩ (by rw[hl];exact hc') (λi y j v hy hv=>efz (g6.toF hnest _ y j v (hat i y hy) hv))
    rw[hl]at this;exact .fz _ _ this
 | ref0 k off sz xs st a hk' hn=>
  unfold wD
  cases hc:K.contains k with
  |true=>obtain⟨xs',st',hk2,hl2⟩:=hk k (cont.1 hc) _ hk';exact .ref0 k off sz xs' st' a hk2 (hl2▸hn)
  | false=>
   simp only[hk',yB5,yC8]
   cases st.nest with
   |true=>
    simp only[yBn]
    cases xY (wH K h xs)with
    |true=>exact .fz _ _ (.nil _ _)
    |false=>exact .fz _ _ (.bot _)
   |false=>exact .fz _ _ (.nil _ _)
 | pbox k off cs b n hk' hb=>
  unfold wD
  cases hc:K.contains k with
  |true=>
   obtain⟨cs',h2⟩:=hk k (cont.1 hc) _ hk';exact .pbox k off cs' b n h2 (by rw[hβ k (cont.1 hc)];exact hb)
  |false=>exact .fz _ _ (.bot _)
 |parr k i off sz xs st b n hk' hb hi ho=>
  unfold wD
  cases hc:K.contains k with
  |true=>obtain⟨xs',st',hk2,_⟩:=hk k (cont.1 hc) _ hk';exact .parr k i off sz xs' st' b n hk2 (by rw[hβ k (cont.1 hc)];exact hb) hi ho
  |false=>exact .fz _ _ (.bot _)
def qK (K:List Nat) (h:yC):xN->xN
 | .box cs=> .box (uO K h cs)
 | .obj cs=> .obj cs
 | .arr sz xs fl=>bif fl.nest then .arr sz (uO K h xs) ⟨fl.stale,!xY (uO K h xs)⟩else .arr sz xs fl
 | .dead=> .dead
def fW (K:List Nat) (h:yC) (sz:Nat) (xs:List AV) (fl:Fl):∃xs' fl',qK K h (.arr sz xs fl)= .arr sz xs' fl'/\xs'.length=xs.length:=by
 cases hn:fl.nest with
 |true=>exact⟨_,_,by simp only[qK,hn,yBn];rfl,vM K h xs⟩
 |false=>exact⟨_,_,by simp only[qK,hn,yB5];rfl,rfl⟩
def zDj {K:List Nat} {h:yC} {v:AV} {i:Nat} (hv:wD K h v= .gh i):v= .gh i:=by
 cases v<;>first
  |exact hv
  |(simp[wD]at hv;done)
  |skip
 ·exfalso;rename_i k _ _;unfold wD at hv
  cases hc:K.contains k<;>rw[hc]at hv
  ·simp only[yB5]at hv;split at hv
   ·rename_i fl _
    cases hn:Fl.nest fl<;>rw[hn]at hv
    ·cases hv
    ·simp only[yBn]at hv;generalize xY _=q at hv
     cases q<;>cases hv
   ·cases hv
  ·cases hv
 ·exfalso;rename_i k _ _;unfold wD at hv
  cases hc:K.contains k<;>rw[hc]at hv<;>cases hv
def wY (K:List Nat) (h:yC):List (Nat×xN)
 :=K.filterMap λk=>(h k).map λe=>(k,qK K h e)
def restr (K ts:List Nat) (st:St):St:=⟨ts.map λt=>(t,wD K (zC st.h) (zG st.tm t)),wY K (zC st.h)⟩
def wE (K:List Nat) (h:yC) (k:Nat):zC (wY K h) k=if k∈K then(h k).map (qK K h)else none:=by
 unfold wY;generalize qK K h=g
 induction K with
 |nil=>rfl
 | cons j K ih=>
  rw[List.filterMap_cons]
  cases hj:h j with
  |none=>
   simp only[yC6,ih,yBd];by_cases hkj:k=j
   ·subst hkj;simp[hj]
   ·simp[hkj]
  |some e=>
   simp only[Option.map_some,yQ,ih,yBd];by_cases hkj:k=j
   ·subst hkj;simp[hj]
   ·simp[hkj]
def fX (K ts:List Nat) (st:St) (t:Nat):zG (restr K ts st).tm t=if t∈ts then wD K (zC st.h) (zG st.tm t)else .bot:=by
 unfold restr;dsimp only;generalize wD K (zC st.h)=g
 induction ts with
 |nil=>rfl
 |cons j ts ih=>
  simp only[yBb,yF,ih,yBd];by_cases htj:t=j
  ·subst htj;simp
  ·simp[htj]
theorem qV.restr {X:Nat->Prop} {h:yC} {β:vP} {w:World} (H:qV X h β w) (K:List Nat):
  qV X (zC (wY K h)) (λk=>if k∈K then β k else []) w/\∀v c,zQ w (xK X β) h β v c->zQ w (xK X λk=>if k∈K then β k else []) (zC (wY K h)) (λk=>if k∈K then β k else []) (wD K h v) c:=by
 have hsub:∀b,xK X (λk=>if k∈K then β k else []) b->xK X β b:=λb hd=>by
  rcases hd with hx|⟨k,n,hm⟩
  ·exact .inl hx
  ·(try dsimp only at hm)
   split at hm
   ·exact .inr ⟨k,n,hm⟩
   ·simp at hm
 have hv:∀v c,zQ w (xK X β) h β v c->zQ w (xK X λk=>if k∈K then β k else []) (zC (wY K h)) (λk=>if k∈K then β k else []) (wD K h v) c:=λv c hv=>by
  refine zQ.frz H (K:=K) (λk hk e he=>?_) (λk hk=>by simp[hk]) (λb _ hd h'=>hd (hsub b h')) (λk hk b n hm=>?_) hv
  ·rw[wE,zZ8 hk,he]
   cases e with
   |box cs=>exact⟨_,rfl⟩
   |obj cs=>exact⟨_,rfl⟩
   |arr sz xs fl=>
    cases hn:fl.nest with
    |true=>exact⟨_,_,by simp only[Option.map_some,qK,hn,yBn];rfl,(vM K h xs).symm⟩
    |false=>exact⟨_,_,by simp only[Option.map_some,qK,hn,yB5];rfl,rfl⟩
   |dead=>rfl
  ·rintro(hx|⟨k',n',hm'⟩)
   ·exact H.free k b n hm hx
   ·(try dsimp only at hm')
    split at hm'
    ·rename_i hk';exact hk (H.disj k k' b n n' hm hm'▸hk')
    ·simp at hm'
 have ef:∀{v c},xH w (xK X β) v c->xH w (xK X λk=>if k∈K then β k else []) v c:=λhf=>hf.evo (yAb _) λb _ hd=>⟨rfl,λh'=>hd (hsub b h')⟩
 refine⟨⟨λk e he=>?_,λk he=>?_,λk k' b n n' h1 h2=>?_,λk b n hm=>?_,λb hd=>H.lt b (hsub b hd)⟩,hv⟩
 ·rw [wE]at he;split at he
  ·rename_i hk;rw[yAo]at he;obtain⟨e0,he0,rfl⟩:=he;have:=H.ent k e0 he0
   cases e0 with
   |dead=>show(if k∈K then β k else [])=[];rw[zZ8 hk];exact this
   |box cs=>
    obtain⟨b,c,el,h1,h2,h3,h4,h5⟩:=this;refine⟨b,c,el,by(try dsimp only);rw[zZ8 hk];exact h1,h2,by rw[vM];exact h3,h4,λi v hi=>?_⟩;rw[cN,yAo]at hi;obtain⟨u,hu,rfl⟩:=hi;exact hv u _ (h5 i u hu)
   |obj cs=>
    exact⟨by(try dsimp only);rw[zZ8 hk];exact this.1,this.2⟩
   | arr sz xs st=>
    obtain⟨g1,g2,g3,g4,g5,f,g6,g7,g8⟩:=this
    cases hn:st.nest with
    |false=>
     simp only[qK,hn,yB5];exact⟨g1,g2,by(try dsimp only);rw[zZ8 hk];exact g3,g4,by(try dsimp only);rw[zZ8 hk];exact g5,f,.ofF λi x j v hx hy=>ef (g6.toF hn i x j v hx hy),g7,by(try dsimp only);rw[zZ8 hk];exact g8⟩
    | true=>
     simp only[qK,hn,yBn];have hl:=vM K h xs
     have hat:∀(i:Nat) y,(uO K h xs)[i]? =some y->∃x,xs[i]? =some x/\y=wD K h x:=λi y hy=>by
      rw[cN,yAo]at hy;obtain⟨x,hx,rfl⟩:=hy;exact⟨x,hx,rfl⟩
     refine⟨g1,by rw[hl];exact g2,λh0=>by(try dsimp only);rw[zZ8 hk];exact g3 (λh1=>h0 (by rw[h1];rfl)),λi y hy=>?_,by(try dsimp only);rw[zZ8 hk,hl];exact g5,f,λi y j v hy hv2=>?_,by rw[hl];exact g7,by(try dsimp only);rw[zZ8 hk];exact g8⟩
     ·obtain⟨x,hx,rfl⟩:=hat i y hy;rw[PU,vM];exact g4 i x hx
     ·obtain⟨x,hx,rfl⟩:=hat i y hy
      have hR:zQ w (xK X λk=>if k∈K then β k else []) (zC (wY K h)) (λk=>if k∈K then β k else []) v (f i j):=by
       rw[PU,cN,yAo]at hv2;obtain⟨u,hu,rfl⟩:=hv2;exact hv u _ (g6.toV i x j u hx hu)
      exact⟨hR,λh0=>hR.toF (kE (TQ (kE (by simpa using h0) hy)) hv2)⟩
  ·cases he
 ·(try dsimp only)
  split
  ·rename_i hk;rw[wE,zZ8 hk]at he
   cases hk':h k with
   |none=>exact H.off k hk'
   |some e=>simp[hk']at he
  ·rfl
 ·(try dsimp only at h1 h2)
  split at h1<;>split at h2
  ·exact H.disj _ _ _ _ _ h1 h2
  ·simp at h2
  ·simp at h1
  ·simp at h1
 ·(try dsimp only at hm)
  split at hm
  ·exact H.free k b n hm
  ·simp at hm
theorem xV.restrM {K0:List Nat} {F:Fr K0} {m:Nat} {st:St} {a:Act} {w:World} (R:xV F m st a w) (K ts:List Nat) (hK:K0.all (K.contains ·)=true) {tm':Nat->AV} (hg:tm' GS=zG (restr K ts st).tm GS)
  (ht:∀t,tm' t=zG (restr K ts st).tm t∨∃k b p,zC st.h k=some (.obj (b,p))/\¬k∈K/\zG st.tm t= .s (.map (some b))/\tm' t= .fm none p):XF F m tm' (zC (restr K ts st).h) a w:=by
 obtain⟨⟨X,β,hX,H,Ht,KK,hJ,hD⟩,nd,gs,hl⟩:=R;obtain⟨H',hv⟩:=H.restr K;refine⟨⟨X,_,hX,H',λt=>?_,⟨λk e he=>?_,KK.size,KK.keep,λk b n hm=>?_,λk b n hm=>?_,KK.bs,KK.os,KK.tape,KK.output⟩,λi hi=>?_,hD⟩,λk=>?_,gs,hl⟩
 ·rcases ht t with e|⟨k,b,p,h1,h2,h3,h4⟩
  ·rw[e,fX];split
   ·exact hv _ _ (Ht t)
   ·exact .fz _ _ (.bot _)
  ·obtain⟨g1,x,g2,g3⟩:=H.ent k _ h1;have hc:=Ht t;rw[h3]at hc;rw[h4]
   have e:a.eval (.tmp t)= .map (some b):=by
    generalize a.eval (.tmp t)=c at hc
    cases hc with
    |fz _ _ hf=>cases hf;rfl
   rw[e];have hm:(b,0)∈β k:=by rw[g1];exact yA8.2 Z
   refine .fz _ _ (.fm none p b x (λn h=>by cases h) (H.lt b (.inr ⟨k,0,hm⟩)) (λhd=>?_) g2 g3)
   rcases hd with hx|⟨j,n,hj⟩
   ·exact H.free k b 0 hm hx
   ·(try dsimp only at hj)
    split at hj
    ·rename_i hjK;rw[<-H.disj k j b 0 n hm hj]at hjK;exact h2 hjK
    ·simp at hj
 ·have hk:k∈K:=by
   have:=yAm.1 hK k (F.hh k e he);simpa using this
  have h1:=KK.knd k e he;have hr:∀e',zC st.h k=some e'->zC (wY K (zC st.h)) k=some (qK K (zC st.h) e'):=λe' h2=>by rw[wE,zZ8 hk,h2];rfl
  cases e with
  |dead=>exact h1
  |box cs=>obtain⟨cs',h2⟩:=h1;exact⟨_,hr _ h2⟩
  |obj cs=>obtain⟨cs',h2⟩:=h1;exact⟨_,hr _ h2⟩
  |arr sz xs sl=>obtain⟨xs',sl',h2,h3⟩:=h1;obtain⟨xs2,fl2,h4,h5⟩:=fW K (zC st.h) sz xs' sl';exact⟨xs2,fl2,(hr _ h2).trans (by rw[h4]),by rw[h5];exact h3⟩
 ·(try dsimp only at hm)
  split at hm
  ·exact KK.own k b n hm
  ·simp at hm
 ·have hk:k∈K:=by
   have:=yAm.1 hK k (F.hK k b n hm);simpa using this
  (try dsimp only)
  rw[zZ8 hk];exact KK.pas k b n hm
 ·rw[hg,fX]at hi;split at hi
  ·have h1:zG st.tm GS= .gh i:=zDj hi;refine F.Jst i _ X w w _ (hJ i h1) (yAb _) (λ_ _ _=>rfl) (λb hb=>?_) (λb hb=>?_) Z Z Z
   ·obtain⟨k,n,hm⟩:=hb
    (try dsimp only at hm)
    split at hm
    ·exact .inl ⟨k,n,hm⟩
    ·simp at hm
   ·obtain⟨k,n,hm⟩:=hb;exact H'.lt b (.inr ⟨k,n,hm⟩)
  ·cases hi
 ·show zC (wY K (zC st.h)) k≠some .dead
  rw[wE];split
  ·intro h;rw[yAo]at h;obtain⟨e,he,h2⟩:=h
   cases e with
   |dead=>exact nd k he
   |box cs=>cases h2
   |obj cs=>cases h2
   |arr a b c=>obtain⟨xs2,fl2,h4,_⟩:=fW K (zC st.h) a b c;rw[h4]at h2;cases h2
  ·intro h;cases h
theorem xV.restr {K0:List Nat} {F:Fr K0} {m:Nat} {st:St} {a:Act} {w:World} (R:xV F m st a w) (K ts:List Nat) (hK:K0.all (K.contains ·)=true):xV F m (restr K ts st) a w:=
 R.restrM K ts hK Z λ_=> .inl Z
def dS (P:Program) (f:Nat):Prop:=∀(args:Array Value) (w:World),(callFunc f args).run P w= .ok (.enter f args) w
def yP (_:List AV) (_:List (Nat×xN)) (_:AV) (_:List (Nat×xN)):Prop:=True
def yD {a:List AV} {h0 h1:List (Nat×xN)} {r:AV}:yP a h0 r h1:=trivial
structure yE (P:Program) (f:Nat) (args:List AV) (h0:List (Nat×xN)) (r:AV) (h1:List (Nat×xN)):Prop where
 able:dS P f
 nd:∀k,zC h1 k≠some .dead
 sim:∀(X:Nat->Prop) (w:World) (β:vP) (cargs:Array Value),cargs.size=args.length->qV X (zC h0) β w->(∀(i:Nat) v,args[i]? =some v->zQ w (xK X β) (zC h0) β v (cargs.getD i undef))->
  Calls P f cargs w λe w'=>∃c β',e= .returned c/\yX X w (zC h0) β w' (zC h1) β'/\zQ w' (xK X β') (zC h1) β' r c
def xN.nosl:xN->Bool
 | .box cs=>PR cs
 | .obj cs=>true
 | .arr _ xs _=>PR xs
 | .dead=>true
def LJ:List (Nat×xN)->Bool
 | []=>true
 |(_,e)::r=>e.nosl&&LJ r
theorem DW:∀{h:List (Nat×xN)} {k:Nat} {e:xN},LJ h=true->zC h k=some e->e.nosl=true
 | [],k,e,_,he=>by simp[zC]at he
 |(j,e0)::r,k,e,hn,he=>by
  simp[LJ]at hn;rw[yQ]at he;split at he
  ·cases he;exact hn.1
  ·exact DW hn.2 he
def yO (h:List (Nat×xN)):List Nat:=h.map (·.1)
theorem vT:∀{h:List (Nat×xN)} {k:Nat} {e:xN},zC h k=some e->k∈yO h
 | [],k,e,he=>by simp[zC]at he
 |(j,e0)::r,k,e,he=>by
  rw[yQ]at he;split at he
  ·rename_i h;simp[yO,h]
  ·have:=vT he;simp[yO]at this⊢;exact .inr this
theorem dT:∀{h:List (Nat×xN)} {k:Nat},k∈yO h->∃e,zC h k=some e
 | [],k,hk=>by simp[yO]at hk
 |(j,e0)::r,k,hk=>by
  rw[yQ];split
  ·exact⟨_,rfl⟩
  ·rename_i h;simp only[yO,yBb,yBd]at hk;exact dT (hk.resolve_left h)
theorem fY:∀{h:List (Nat×xN)} {k:Nat} {e:xN},zC h k=some e->∃p∈h,p.2=e
 | [],k,e,he=>by simp[zC]at he
 |(j,e0)::r,k,e,he=>by
  rw[yQ]at he;split at he
  ·cases he;exact⟨(j,e0),by simp,rfl⟩
  ·obtain⟨p,hp,h2⟩:=fY he;exact⟨p,by simp[hp],h2⟩
def clE (ks:List Nat):xN->Bool
 | .box cs=>(kM cs).all (ks.contains ·)
 | .obj cs=>true
 | .arr _ xs fl=>bif fl.nest then(kM xs).all (ks.contains ·)else true
 | .dead=>true
def XD {x v:AV} {j:Nat} (h:x.cells[j]? =some v) {k:Nat} (hk:k∈v.refs):k∈x.refs:=by
 cases x<;>first
  |(simp[AV.cells]at h;cases j<;>simp at h;subst h;exact hk)
  |exact wI h hk
def zZu (K:List Nat) (h:yC) (v:AV):AV:=XC (uT K h v)
def zQf {args:Array Operand} {caps:List AV} {ρ:Operand->Value} {cv:Array Value} (g:Operand->AV) {i:Nat} {v:AV} (hc:cv.size=caps.length) (h:(args.toList.map g++caps)[i]? =some v):
  (∃x,x∈args/\g x=v/\(args.map ρ++cv).getD i undef=ρ x)∨∃j,caps[j]? =some v/\(args.map ρ++cv).getD i undef=cv.getD j undef:=by
 by_cases hi:i<args.size
 ·rw[yBe OB,yAa,yAo]at h;obtain⟨x,hx,rfl⟩:=h;have hx':args[i]? =some x:=by simpa using hx
  refine .inl ⟨x,Array.mem_of_getElem? hx',rfl,gI ?_⟩;rw[yCb OB];simp[hx']
 ·rw[yA1 vA]at h;refine .inr ⟨i-args.size,by simpa using h,?_⟩;have hlt:i-args.size<caps.length:=by simpa using (yAu.1 h).1
  apply gI;rw[yD0 vA];simpa using kF cv (i-args.size) (by omega)
section
variable {P:Program} {st:St}
def zLy {X Xc:Nat->Prop} {w':World} {h h':yC} {β1 β':vP} (hh:∀k e,h k=some e->h' k=some e/\β' k=β1 k) (hD:∀b,xK X β' b->b<w'.heap.size->xK Xc β1 b∨False) {v:AV} {c:Value} (hv:zQ w' (xK Xc β1) h β1 v c):zQ w' (xK X β') h' β' v c:=by
 have ef:∀{v c},xH w' (xK Xc β1) v c->xH w' (xK X β') v c:=λhf=>hf.evo (yAb _) λb hb hd=>⟨rfl,λh'=>hd ((hD b h' hb).resolve_right id)⟩
 induction hv with
 |fz v c hf=>exact .fz _ _ (ef hf)
 |agg cs c hl h1 _ ih=>exact .agg cs c hl h1 ih
 |fn f caps c hl _ ih=>exact .fn f caps c hl ih
 |tup vs c hl _ ih=>exact .tup vs c hl ih
 |dref k off len c hk h1=>exact .dref _ _ _ _ (hh k _ hk).1 h1
 |dptr k i off c hk h1=>exact .dptr _ _ _ _ (hh k _ hk).1 h1
 |ref k off len sz xs st b n cap hk hb hn hc hs=>exact .ref k off len sz xs st b n cap (hh k _ hk).1 (by rw[(hh k _ hk).2];exact hb) hn hc hs
 |ref0 k off sz xs st a hk hn=>exact .ref0 k off sz xs st a (hh k _ hk).1 hn
 |pbox k off cs b n hk hb=>exact .pbox k off cs b n (hh k _ hk).1 (by rw[(hh k _ hk).2];exact hb)
 |parr k i off sz xs st b n hk hb hi ho=>exact .parr k i off sz xs st b n (hh k _ hk).1 (by rw[(hh k _ hk).2];exact hb) hi ho
def zE8 {X Xc:Nat->Prop} {w':World} {h h':yC} {β1 β':vP} (hh:∀k e,h k=some e->h' k=some e/\β' k=β1 k) {v:AV} {c:Value} (hv:zQ w' (xK Xc β1) h β1 v c):v.nosl=true->zQ w' (xK X β') h' β' v c:=by
 induction hv with
 |fz v c hf=>exact λhn=> .fz _ _ (hf.free hn)
 |agg cs c hl h1 _ ih=>exact λhn=> .agg cs c hl h1 λi v hv=>ih i v hv (gN (by simpa [AV.nosl]using hn) hv)
 |fn f caps c hl _ ih=>exact λhn=> .fn f caps c hl λi v hv=>ih i v hv (gN (by simpa [AV.nosl]using hn) hv)
 |tup vs c hl _ ih=>exact λhn=> .tup vs c hl λi v hv=>ih i v hv (gN (by simpa [AV.nosl]using hn) hv)
 |dref k off len c hk h1=>exact λ_=> .dref _ _ _ _ (hh k _ hk).1 h1
 |dptr k i off c hk h1=>exact λ_=> .dptr _ _ _ _ (hh k _ hk).1 h1
 |ref k off len sz xs st b n cap hk hb hn hc hs=>exact λ_=> .ref k off len sz xs st b n cap (hh k _ hk).1 (by rw[(hh k _ hk).2];exact hb) hn hc hs
 |ref0 k off sz xs st a hk hn=>exact λ_=> .ref0 k off sz xs st a (hh k _ hk).1 hn
 |pbox k off cs b n hk hb=>exact λ_=> .pbox k off cs b n (hh k _ hk).1 (by rw[(hh k _ hk).2];exact hb)
 |parr k i off sz xs st b n hk hb hi ho=>exact λ_=> .parr k i off sz xs st b n (hh k _ hk).1 (by rw[(hh k _ hk).2];exact hb) hi ho
theorem VQ.lift {w:World} {D D':Nat->Prop} {h h':yC} {β β':vP} {k:Nat} {e:xN} (hb:β' k=β k) (hv:∀cs,e= .box cs->∀(i:Nat) v c,cs[i]? =some v->zQ w D h β v c->zQ w D' h' β' v c)
  (hf:∀sz xs st,e= .arr sz xs st->∀(i:Nat) (x:AV) (j:Nat) v c,xs[i]? =some x->x.cells[j]? =some v->(xH w D v c->xH w D' v c)/\(st.nest=true->zQ w D h β v c->zQ w D' h' β' v c)) (H:VQ w D h β k e):VQ w D' h' β' k e:=by
 cases e with
 |dead=>exact hb.trans H
 |box cs=>
  obtain⟨b,c,el,h1,h2,h3,h4,h5⟩:=H;exact⟨b,c,el,hb.trans h1,h2,h3,h4,λi v hi=>hv cs Z i v _ hi (h5 i v hi)⟩
 |obj cs=>
  exact⟨hb.trans H.1,H.2⟩
 | arr sz xs st=>
  obtain⟨h1,h2,h3,h4,h5,f,h6,h7,h8⟩:=H
  exact⟨h1,h2,by rwa [hb],h4,by rwa [hb],f,λi x j v hx hv=>by
   obtain⟨q1,q2⟩:=hf sz xs st Z i x j v (f i j) hx hv
   cases hn:st.nest with
   |true=>exact⟨q2 hn (h6.toV i x j v hx hv),λh=>by cases h⟩
   |false=>exact⟨.fz _ _ (q1 (h6.toF hn i x j v hx hv)),λ_=>q1 (h6.toF hn i x j v hx hv)⟩,h7,by rwa [hb]⟩
theorem kD {f:Nat} {x:Operand} {args:Array Operand} {ats:Array Nat} {caps as':List AV} {h0 h1:List (Nat×xN)} {r:AV} (hc:yE P f as' h0 r h1) (hx:yJ (zG st.tm) x= .fn f caps)
  (has:(args.toList.map (yJ (zG st.tm))++caps).map (uT (yO h0) (zC st.h))=as') (hh0:(yO h0).map (zC st.h)=(yO h0).map (zC h0)) (hcl:h0.all (λp=>clE (yO h0) p.2)=true)
  (hnb:((kM (args.toList.map (yJ (zG st.tm))++caps)).all ((yO h0).contains ·)||(r.nosl&&LJ h1))=true):
  wM P st (.call ⟨.value x,args,ats⟩) r h1 (yO h0++kM (args.toList.map (yJ (zG st.tm))++caps)) ((yO h1).filter λk=>!(yO h0).contains k):=by
 refine⟨?_⟩;intro X tm h hg hr hn o a w β ho HH Ht;obtain⟨dst,op',type,pos,after,guard⟩:=o;dsimp only at ho;subst ho;have hfv:=hH Ht hg (x:=x) kH hx
 obtain⟨cv,hfx,hcvl,hcv⟩:∃cv:Array Value,a.eval x= .func (.func f) #[] cv/\cv.size=caps.length/\∀(i:Nat) v,caps[i]? =some v->zQ w (xK X β) h β v (cv.getD i undef):=by
  generalize a.eval x=cx at hfv
  cases hfv with
  |fz _ _ hf=>cases hf
  |fn _ _ c hl hh=>exact⟨c,rfl,hl,hh⟩
 have hrun:(execOp a.eval ⟨dst,.call ⟨.value x,args,ats⟩,type,pos,after,guard⟩).run P w= .ok (.enter f (args.map a.eval++cv)) w:=by
  have hab:=hc.able (args.map a.eval++cv) w;simp[execOp,resolve,hfx,Deferred.ofValue,invoke,hab]
 rw[hrun]
 have hK:∀k,k∈yO h0->h k=zC h0 k:=λk hk=>by
  rw[hr k (by simp[hk])];obtain⟨i,hi⟩:=yDw hk;have:=yA6 (·[i]?) hh0;simpa [hi]using this
 have hoff0:∀k,zC h0 k=none->¬k∈yO h0:=λk hk hm=>by
  obtain⟨e,he⟩:=dT hm;rw[hk]at he;cases he
 let βc:vP:=λk=>if k∈yO h0 then β k else []
 have hβc:∀k,k∈yO h0->βc k=β k:=λk hk=>by simp[βc,hk]
 have hβn:∀k,¬k∈yO h0->βc k=[]:=λk hk=>by simp[βc,hk]
 have hβm:∀k b n,(b,n)∈βc k->k∈yO h0/\(b,n)∈β k:=λk b n hm=>by
  by_cases hk:k∈yO h0
  ·rw[hβc k hk]at hm;exact⟨hk,hm⟩
  ·rw[hβn k hk]at hm;simp at hm
 let lent:Bool:=!(kM (args.toList.map (yJ (zG st.tm))++caps)).all ((yO h0).contains ·)
 let Xc:Nat->Prop:=λb=>X b∨(lent=false/\∃k n,¬k∈yO h0/\(b,n)∈β k)
 have hDc:∀b,xK Xc βc b->xK X β b:=λb hd=>by
  rcases hd with(hx|⟨_,k,n,_,hm⟩)|⟨k,n,hm⟩
  ·exact .inl hx
  ·exact .inr ⟨k,n,hm⟩
  ·exact .inr ⟨k,n,(hβm k b n hm).2⟩
 have hclosed:∀k e,zC h0 k=some e->clE (yO h0) e=true:=λk e hk=>by
  obtain⟨p,hp,he⟩:=fY hk;have:=yAm.1 hcl p hp;rw[he]at this;exact this
 have hfrz:∀{v c},zQ w (xK X β) h β v c->(∀k,k∈v.refs->k∈yO h0∨∀b n,(b,n)∈β k->¬xK Xc βc b)->zQ w (xK Xc βc) (zC h0) βc (uT (yO h0) h v) c:=λhv hrf=>
  zQ.fz0 HH (λk hk e he=>by
   rw[hK k hk]at he
   cases e with
   |box cs=>exact⟨cs,he⟩
   |obj cs=>exact⟨cs,he⟩
   |arr sz xs fl=>exact⟨xs,fl,he,rfl⟩
   |dead=>exact he) hβc (λb _ hd h'=>hd (hDc b h')) hv hrf
 have hclv:∀{v c},zQ w (xK X β) h β v c->(∀k,k∈v.refs->k∈yO h0)->zQ w (xK Xc βc) (zC h0) βc v c:=by
  intro v c hv;have ef:∀{v c},xH w (xK X β) v c->xH w (xK Xc βc) v c:=λhf=>hf.evo (yAb _) λb _ hd=>⟨rfl,λh'=>hd (hDc b h')⟩
  induction hv with
  |fz v c hf=>exact λ_=> .fz _ _ (ef hf)
  |agg cs c hl h1 _ ih=>exact λhr=> .agg cs c hl h1 λi v hv=>ih i v hv λk hk=>hr k (by simpa [AV.refs]using wI hv hk)
  |fn f caps c hl _ ih=>exact λhr=> .fn f caps c hl λi v hv=>ih i v hv λk hk=>hr k (by simpa [AV.refs]using wI hv hk)
  |tup vs c hl _ ih=>exact λhr=> .tup vs c hl λi v hv=>ih i v hv λk hk=>hr k (by simpa [AV.refs]using wI hv hk)
  |dref k off len c hk h1=>exact λhr=> .dref _ _ _ _ ((hK k (hr k (by simp[AV.refs])))▸hk) h1
  |dptr k i off c hk h1=>exact λhr=> .dptr _ _ _ _ ((hK k (hr k (by simp[AV.refs])))▸hk) h1
  |ref k off len sz xs st b n cap hk hb hn hc hs=>exact λhr=> .ref k off len sz xs st b n cap ((hK k (hr k (by simp[AV.refs])))▸hk) (by rw[hβc k (hr k (by simp[AV.refs]))];exact hb) hn hc hs
  |ref0 k off sz xs st a hk hn=>exact λhr=> .ref0 k off sz xs st a ((hK k (hr k (by simp[AV.refs])))▸hk) hn
  |pbox k off cs b n hk hb=>exact λhr=> .pbox k off cs b n ((hK k (hr k (by simp[AV.refs])))▸hk) (by rw[hβc k (hr k (by simp[AV.refs]))];exact hb)
  |parr k i off sz xs st b n hk hb hi ho=>exact λhr=> .parr k i off sz xs st b n ((hK k (hr k (by simp[AV.refs])))▸hk) (by rw[hβc k (hr k (by simp[AV.refs]))];exact hb) hi ho
 have Hc:qV Xc (zC h0) βc w:=by
  refine⟨λk e he=>?_,λk he=>hβn k (hoff0 k he),λk k' b n n' q1 q2=>HH.disj _ _ _ _ _ (hβm _ _ _ q1).2 (hβm _ _ _ q2).2,λk b n hm hx=>?_,λb hd=>HH.lt b (hDc b hd)⟩
  ·have hk:=vT he
   refine(HH.ent k e ((hK k hk).trans he)).lift (hβc k hk) (λcs hcs i v c hi hv=>hclv hv λj hj=>by
    have:=hclosed k e he;rw[hcs]at this
    simpa using yAm.1 this j (wI hi hj)) λsz xs fl hxs i x j v c hi hj=>⟨λhf=>hf.evo (yAb _) λb _ hd=>⟨rfl,λh'=>hd (hDc b h')⟩,λhn hv=>hclv hv λq hq=>by
    have:=hclosed k e he;rw[hxs]at this;simp only[clE,hn,yBn]at this
    simpa using yAm.1 this q (wI hi (XD hj hq))⟩
  ·obtain⟨hk,hm⟩:=hβm k b n hm
   rcases hx with hx|⟨_,k',n',hk',hm'⟩
   ·exact HH.free k b n hm hx
   ·exact hk' (HH.disj k k' b n n' hm hm'▸hk)
 have hargs:∀(i:Nat) v,(args.toList.map (yJ (zG st.tm))++caps)[i]? =some v->zQ w (xK X β) h β v ((args.map a.eval++cv).getD i undef):=λi v hi=>by
  rcases zQf (ρ:=a.eval) (yJ (zG st.tm)) hcvl hi with⟨y,hy,rfl,he⟩|⟨j,hj,he⟩
  ·rw[he]
   exact hH Ht hg (by
    simp only[Op.operands,Call.operands,Array.mem_append]
    exact .inr hy) Z
  ·rw[he];exact hcv j v hj
 have hrefs:∀(i:Nat) v,(args.toList.map (yJ (zG st.tm))++caps)[i]? =some v->∀k,k∈v.refs->k∈yO h0∨∀b n,(b,n)∈β k->¬xK Xc βc b:=λi v hi k hk=>by
  by_cases hk0:k∈yO h0
  ·exact .inl hk0
  ·refine .inr λb n hm hd=>?_
   have hlent:lent=true:=by
    cases hl:lent with
    |true=>rfl
    |false=>
     simp only[lent,Bool.not_eq_false']at hl;have:=yAm.1 hl k (wI hi hk);exact absurd LO hk0
   rcases hd with(hx|⟨hf,_⟩)|⟨k',n',hm'⟩
   ·exact HH.free k b n hm hx
   ·rw[hlent]at hf;cases hf
   ·obtain⟨q1,q2⟩:=hβm k' b n' hm';exact hk0 (HH.disj k k' b n n' hm q2▸q1)
 have hfreq:∀(i:Nat) v,(args.toList.map (yJ (zG st.tm))++caps)[i]? =some v->uT (yO h0) (zC st.h) v=uT (yO h0) h v:=by
  have main:∀v:AV,(∀k,k∈v.refs->h k=zC st.h k)->uT (yO h0) (zC st.h) v=uT (yO h0) h v:=by
   intro v
   refine AV.rec (motive_1:=λv=>(∀k,k∈v.refs->h k=zC st.h k)->uT (yO h0) (zC st.h) v=uT (yO h0) h v)
    (motive_2:=λcs=>(∀k,k∈kM cs->h k=zC st.h k)->wH (yO h0) (zC st.h) cs=wH (yO h0) h cs) ?_ ?_ ?_ ?_ ?_ ?_ ?_ ?_ ?_ ?_ ?_ ?_ ?_ ?_ v
   ·exact λ_=>rfl
   ·exact λ_ _=>rfl
   ·exact λ_ _=>rfl
   ·exact λcs ih hk=>by simp only[uT];rw[ih (by simpa [AV.refs]using hk)]
   ·exact λ_ _ _ _=>rfl
   ·exact λ_ _ _ _=>rfl
   ·exact λk off len hk=>by simp only[uT];rw[hk k (by simp[AV.refs])]
   ·exact λ_ _ _ _=>rfl
   ·exact λ_ _ _ _ _=>rfl
   ·exact λf cs ih hk=>by simp only[uT];rw[ih (by simpa [AV.refs]using hk)]
   ·exact λcs ih hk=>by simp only[uT];rw[ih (by simpa [AV.refs]using hk)]
   ·exact λ_ _ _=>rfl
   ·exact λ_=>rfl
   ·exact λv r ihv ihr hk=>by
     simp only[wH];rw[ihv λk h=>hk k (by simp[kM,h]),ihr λk h=>hk k (by simp[kM,h])]
  exact λi v hi=>main v λk hk=>hr k (by simp[wI hi hk])
 have hsim:=hc.sim Xc w βc (args.map a.eval++cv) (by rw[<-has];simp[hcvl]) Hc (λi v hi=>by
  rw[<-has,yAa,yAo]at hi;obtain⟨u,hu,rfl⟩:=hi;rw[hfreq i u hu]
  exact hfrz (hargs i u hu) (hrefs i u hu))
 refine Calls.mono hsim ?_;rintro e w' ⟨c,β1,he,G,hv⟩;refine⟨c,he,?_⟩;have hlive:=G.lives Hc hc.nd
 let β':vP:=λk=>if(zC h1 k).isSome then β1 k else β k
 have hb1:∀k e,zC h1 k=some e->β' k=β1 k:=λk e hk=>by simp[β',hk]
 have hb2:∀k,zC h1 k=none->β' k=β k:=λk hk=>by simp[β',hk]
 have hin:∀k,k∈yO h0->∃e,zC h1 k=some e:=λk hk=>by
  obtain⟨e,he⟩:=dT hk
  rcases G.key k e he with h2|h2
  ·exact⟨_,h2⟩
  ·cases e with
   |dead=>exact h2.elim
   |box cs=>exact⟨_,h2.1.choose_spec⟩
   |obj cs=>exact⟨_,h2.1.choose_spec⟩
   |arr sz xs st=>obtain⟨xs',st',h3,_⟩:=h2.1;exact⟨_,h3⟩
 have hnew:∀k e,zC h1 k=some e->¬k∈yO h0->h k=none:=λk e hk hk0=>hn k (by
  simp only[yC5,yCe,List.contains_eq_mem,yAr]
  exact⟨vT hk,hk0⟩)
 have ov1:∀k e,zC h1 k=some e->over h1 h k=some e:=λk e hk=>by simp[over,hk]
 have ov2:∀k,zC h1 k=none->over h1 h k=h k:=λk hk=>by simp[over,hk]
 have hβ':∀k b n,(b,n)∈β' k->((∃e,zC h1 k=some e)/\(b,n)∈β1 k)∨(zC h1 k=none/\¬k∈yO h0/\(b,n)∈β k):=λk b n hm=>by
  cases hk:zC h1 k with
  |none=>rw[hb2 k hk]at hm;exact .inr ⟨rfl,(λh2=>by obtain⟨e,he⟩:=hin k h2;rw[hk]at he;cases he),hm⟩
  |some e=>rw[hb1 k e hk]at hm;exact .inl ⟨⟨e,rfl⟩,hm⟩
 have own1:∀k b n,(b,n)∈β1 k->(∃k' n',k'∈yO h0/\(b,n')∈β k')∨w.heap.size<=b:=λk b n hm=>by
  rcases G.own k b n hm with⟨k',n',h2⟩|h2
  ·obtain⟨q1,q2⟩:=hβm k' b n' h2;exact .inl ⟨k',n',q1,q2⟩
  ·exact .inr h2
 have keepK:∀b,b<w.heap.size->(∀k n,k∈yO h0->(b,n)∉β k)->w'.heap[b]? =w.heap[b]? :=λb hb hk=>G.keep b hb λk n hm=>by
  obtain⟨q1,q2⟩:=hβm k b n hm;exact hk k n q1 q2
 have keepO:∀k b n,¬k∈yO h0->(b,n)∈β k->w'.heap[b]? =w.heap[b]? :=λk b n hk hm=>keepK b (HH.lt b (.inr ⟨k,n,hm⟩)) λk' n' hk' hm'=>hk (HH.disj k k' b n n' hm hm'▸hk')
 have bs':∀k b n,(b,n)∈β k->wB w' b=wB w b:=λk b n hm=>by
  by_cases hk:k∈yO h0
  ·exact G.bs k b n (by rw[hβc k hk];exact hm)
  ·unfold wB World.shape?;rw[keepO k b n hk hm]
 have key':∀k e,h k=some e->over h1 h k=some .dead∨match e with
   | .dead=>False
   | .box _=>(∃cs',over h1 h k=some (.box cs'))/\∀b n,(b,n)∈β k->(b,n)∈β' k
   | .obj _=>(∃cs',over h1 h k=some (.obj cs'))/\∀b n,(b,n)∈β k->(b,n)∈β' k
   | .arr sz xs _=>(∃xs' st',over h1 h k=some (.arr sz xs' st')/\xs.length<=xs'.length)/\∀b n,(b,n)∈β k->∃n',n<=n'/\(b,n')∈β' k:=λk e he=>by
  by_cases hk:k∈yO h0
  ·have he0:=(hK k hk)▸he;have:=G.key k e he0;obtain⟨e1,he1⟩:=hin k hk;rw[he1]at this;rw[ov1 k e1 he1,hb1 k e1 he1,<-hβc k hk];exact this
  ·have hno:zC h1 k=none:=by
    cases h2:zC h1 k with
    |none=>rfl
    |some e1=>rw[hnew k e1 h2 hk]at he;cases he
   rw[ov2 k hno,hb2 k hno];exact qO h β k e he
 have own':∀k b n,(b,n)∈β' k->(∃k' n',(b,n')∈β k')∨w.heap.size<=b:=λk b n hm=>by
  rcases hβ' k b n hm with⟨_,h2⟩|⟨_,_,h2⟩
  ·rcases own1 k b n h2 with⟨k',n',_,h3⟩|h3
   ·exact .inl ⟨k',n',h3⟩
   ·exact .inr h3
  ·exact .inl ⟨k,n,h2⟩
 have keep':∀b,b<w.heap.size->(∀k n,(b,n)∉β k)->w'.heap[b]? =w.heap[b]? :=λb hb hk=>keepK b hb λk n _=>hk k n
 have E:GO w (xK X β) h β w' (xK X β') (over h1 h) β':=by
  refine⟨G.size,λb hb hd=>?_,bs',key'⟩;have q1:∀k n,(b,n)∉β k:=λk n hm=>hd (.inr ⟨k,n,hm⟩)
  refine⟨keep' b hb q1,?_⟩;rintro(hx|⟨k,n,hm⟩)
  ·exact hd (.inl hx)
  ·rcases own' k b n hm with⟨k',n',h2⟩|h2
   ·exact q1 _ _ h2
   ·omega
 have hup:∀k e,zC h1 k=some e->over h1 h k=some e/\β' k=β1 k:=λk e hk=>⟨ov1 k e hk,hb1 k e hk⟩
 have hDl:lent=false->∀b,xK X β' b->xK Xc β1 b:=λhl b hd=>by
  rcases hd with hx|⟨k,n,hm⟩
  ·exact .inl (.inl hx)
  ·rcases hβ' k b n hm with⟨_,h2⟩|⟨_,h2,h3⟩
   ·exact .inr ⟨k,n,h2⟩
   ·exact .inl (.inr ⟨hl,k,n,h2,h3⟩)
 have hcase:lent=false∨(r.nosl=true/\LJ h1=true):=by
  rw[yCi]at hnb
  rcases hnb with h2|h2
  ·left;show(!(_:Bool))=false;rw[h2];rfl
  ·right;simpa using h2
 have hliftV:∀{v c},(lent=false∨v.nosl=true)->zQ w' (xK Xc β1) (zC h1) β1 v c->zQ w' (xK X β') (over h1 h) β' v c:=λhl hv=>by
  rcases hl with hl|hl
  ·exact zLy (h':=over h1 h) hup (λb hd _=> .inl (hDl hl b hd)) hv
  ·exact zE8 hup hv hl
 have hliftF:∀{v c},(lent=false∨v.nosl=true)->xH w' (xK Xc β1) v c->xH w' (xK X β') v c:=λhl hv=>by
  rcases hl with hl|hl
  ·exact hv.evo (yAb _) λb _ hd=>⟨rfl,λh'=>hd (hDl hl b h')⟩
  ·exact hv.free hl
 have HK:qV X (over h1 h) β' w':=by
  refine⟨λk e he=>?_,λk he=>?_,λk k' b n n' q1 q2=>?_,λk b n hm hx=>?_,λb hd=>?_⟩
  ·cases hk:zC h1 k with
   |none=>
    rw[ov2 k hk]at he;have hk0:¬k∈yO h0:=λh2=>by obtain⟨e1,he1⟩:=hin k h2;rw[hk]at he1;cases he1
    exact(HH.ent k e he).evo E (hb2 k hk) λb n hm=>keepO k b n hk0 hm
   | some e1=>
    rw[ov1 k e1 hk]at he;obtain rfl:=yCs he;have hns:lent=false∨e1.nosl=true:=hcase.imp id λh2=>DW h2.2 hk
    refine(G.hok.ent k e1 hk).lift (hb1 k e1 hk) (λcs hcs i v c hi hv=>hliftV (hns.imp id λh2=>gN (by rw[hcs]at h2;exact h2) hi) hv) λsz xs st hxs i x j v c hi hj=>by
     have hns':lent=false∨v.nosl=true:=hns.imp id λh2=>by
      have hxn:x.nosl=true:=gN (by rw[hxs]at h2;exact h2) hi
      cases x<;>first
       |(simp[AV.cells]at hj;cases j<;>simp at hj;subst hj;exact hxn)
       |(exact gN (by simpa [AV.nosl,AV.cells]using hxn) hj)
     exact⟨λhf=>hliftF hns' hf,λ_ hv=>hliftV hns' hv⟩
  ·cases hk:zC h1 k with
   |none=>rw[ov2 k hk]at he;rw[hb2 k hk];exact HH.off k he
   |some e1=>rw[ov1 k e1 hk]at he;cases he
  ·rcases hβ' k b n q1 with⟨_,h2⟩|⟨_,h2,h3⟩<;>rcases hβ' k' b n' q2 with⟨_,h4⟩|⟨_,h4,h5⟩
   ·exact G.hok.disj _ _ _ _ _ h2 h4
   ·rcases own1 k b n h2 with⟨j,m,hj,hm⟩|h6
    ·exact absurd (HH.disj j k' b m n' hm h5▸hj) h4
    ·have:=HH.lt b (.inr ⟨k',n',h5⟩);omega
   ·rcases own1 k' b n' h4 with⟨j,m,hj,hm⟩|h6
    ·exact absurd (HH.disj j k b m n hm h3▸hj) h2
    ·have:=HH.lt b (.inr ⟨k,n,h3⟩);omega
   ·exact HH.disj _ _ _ _ _ h3 h5
  ·rcases hβ' k b n hm with⟨_,h2⟩|⟨_,_,h3⟩
   ·exact G.hok.free k b n h2 (.inl hx)
   ·exact HH.free k b n h3 hx
  ·rcases hd with hx|⟨k,n,hm⟩
   ·exact yBl (HH.lt b (.inl hx)) G.size
   ·rcases hβ' k b n hm with⟨_,h2⟩|⟨_,_,h3⟩
    ·exact G.hok.lt b (.inr ⟨k,n,h2⟩)
    ·exact yBl (HH.lt b (.inr ⟨k,n,h3⟩)) G.size
 exact⟨β',⟨G.size,keep',own',bs',key',HK,G.os,G.tape,G.output⟩,hliftV (hcase.imp id (·.1)) hv⟩
def zH {f:Nat} {x:Operand} {args:Array Operand} {ats:Array Nat} {caps as':List AV} {h0 h1:List (Nat×xN)} {r:AV} (hc:yE P f as' h0 r h1) (hx:yJ (zG st.tm) x= .fn f caps)
  (has:(args.toList.map (yJ (zG st.tm))++caps).map (zZu (yO h0) (zC st.h))=as') (hh0:(yO h0).map (zC st.h)=(yO h0).map (zC h0)) (hcl:h0.all (λp=>clE (yO h0) p.2)=true)
  (hnb:((kM (args.toList.map (yJ (zG st.tm))++caps)).all ((yO h0).contains ·)||(r.nosl&&LJ h1))=true):
  wM P st (.call ⟨.value x,args,ats⟩) r h1 (yO h0++kM (args.toList.map (yJ (zG st.tm))++caps)) ((yO h1).filter λk=>!(yO h0).contains k):=
 kD (hc:=⟨hc.able,hc.nd,λX w β cargs hl H ha=>hc.sim X w β cargs (by rw[hl,<-has];simp) H λi v hi=>by
  rw[<-has,yAa,yAo]at hi;obtain⟨u,hu,rfl⟩:=hi
  exact(ha i _ (by rw[yAa,hu];rfl)).wk⟩) hx Z hh0 hcl hnb
end
end Av
end Go.Proofs.YteajjdidebfcjaaGreat
